/- Part 12 of 18: contracts of functions and plain laws for the root text. No condition. -/
import Derived.Test.YtmnejmpjmniiiaaGreatDoorV01
import Derived.Test.YtmnejmpjmniiiaaGreatDoorV02
import Derived.Test.YtmnejmpjmniiiaaGreatDoorV03
import Derived.Test.YtmnejmpjmniiiaaGreatDoorV04
import Derived.Test.YtmnejmpjmniiiaaGreatDoorV05
import Derived.Test.YtmnejmpjmniiiaaGreatDoorV06
import Derived.Test.YtmnejmpjmniiiaaGreatDoorV07
import Derived.Test.YtmnejmpjmniiiaaGreatDoorV08
import Derived.Test.YtmnejmpjmniiiaaGreatDoorV09
import Derived.Test.YtmnejmpjmniiiaaGreatDoorV10
import Derived.Test.YtmnejmpjmniiiaaGreatDoorV11
set_option linter.unusedVariables false
set_option linter.unusedSimpArgs false
set_option linter.unusedSectionVars false
set_option linter.deprecated false
set_option maxRecDepth 100000
set_option maxHeartbeats 4000000
namespace Go.Proofs.YtmnejmpjmniiiaaGreatDoor
open Go.RowKit Go.Sea
open Nat renaming reduceAdd -> xA, reduceLT -> xL, reduceLeDiff -> xD, reduceEqDiff -> xE, reduceMul -> xM, reduceSub -> xS, reduceBEq -> xB
theorem afi : BP Tryz.prog 71 = none := by kernel_rfl
theorem GJ : aM Tryz.prog 100 = true := by kernel_rfl
theorem BM : aM Tryz.prog 110 = true := by kernel_rfl
theorem qm : aM Tryz.prog 111 = true := by kernel_rfl
theorem Un : aM Tryz.prog 112 = true := by kernel_rfl
theorem IL : aM Tryz.prog 113 = true := by kernel_rfl
theorem E5 : aM Tryz.prog 66 = true := by kernel_rfl
theorem yt : aM Tryz.prog 81 = true := by kernel_rfl
theorem MQ : aM Tryz.prog 83 = true := by kernel_rfl
theorem vK : aM Tryz.prog 99 = true := by kernel_rfl
theorem acu : inD Tryz.prog 153 = some .u32 := by kernel_rfl
theorem aiM : inD Tryz.prog 3 = some .i64 := by kernel_rfl
theorem Y4 : dB Tryz.prog 73 1 = some 1 := by kernel_rfl
theorem VN : dB Tryz.prog 73 3 = some 3 := by kernel_rfl
theorem afJ : oU Tryz.prog 71 = some (1, 8, 89) := by kernel_rfl
theorem aem : mU Tryz.prog 155 = some (false, 1) := by kernel_rfl
theorem agL : mU Tryz.prog 68 = some (false, 1) := by kernel_rfl
theorem aio : mU Tryz.prog 71 = some (false, 1) := by kernel_rfl
theorem aeP : mU Tryz.prog 88 = some (false, 1) := by kernel_rfl
theorem afZ : mU Tryz.prog 89 = some (false, 1) := by kernel_rfl
theorem afm : eX Tryz.prog 27 = some [.iv (.g (.slice none 0 0))] := by kernel_rfl
theorem aiz : eX Tryz.prog 89 = some [.iv (.g (.int .u64 0))] := by kernel_rfl
attribute [go_sem] afi qm Un IL E5 yt MQ vK acu aiM Y4 VN afJ aem agL aio aeP afZ afm aiz
theorem V8 (s : Nat) (hs : s < 1024) : au Tryz.prog 111 [.one (.g (.int .u64 (s : Int)))] (.t (.one (.g (.int .i64 (cz s : Nat))))) :=
  Gd rfl rfl fun w hT => (Tryz.bits_TrailingZeros s (by omega) w (fun _ => hT)).mono fun e w' ⟨he, hw⟩ => ⟨he, hw ▸ Below.refl _ _⟩
structure xP where
  x : bF
  P : Nat -> Nat
  F : Nat -> Nat
  c : Nat
  C : Nat -> Nat -> IV
def uF (P : Nat -> Nat) (i : Nat) (_ : Nat) : IV := .g (.int .u64 (P i : Int))
def EK : xP -> Nat -> IV
  | K, 0 => .lst 9 K.x.n (bq K.x.f)
  | K, 1 => .lst 2 K.x.m (fA K.x.S)
  | K, 2 => .lst 1 K.x.mo (iJ K.x.O)
  | K, 3 => .lst 1 K.x.m (uF K.P)
  | K, 4 => .lst 1 K.x.m (uF K.F)
  | K, _ + 5 => .lst 4 K.c K.C
theorem lK (K : xP) : EK K 0 = .lst 9 K.x.n (bq K.x.f) := rfl
theorem jI (K : xP) : EK K 1 = .lst 2 K.x.m (fA K.x.S) := rfl
theorem lW (K : xP) : EK K 2 = .lst 1 K.x.mo (iJ K.x.O) := rfl
theorem jQ (K : xP) : EK K 3 = .lst 1 K.x.m (uF K.P) := rfl
theorem lG (K : xP) : EK K 4 = .lst 1 K.x.m (uF K.F) := rfl
theorem kK (K : xP) : EK K 5 = .lst 4 K.c K.C := rfl
theorem wY (P : Nat -> Nat) (i o : Nat) : uF P i o = .g (.int .u64 (P i : Int)) := rfl
structure xP.Ok (K : xP) : Prop where
  x : K.x.Ok
  m : K.x.m <= 10
  mo : K.x.mo = K.x.m
  P : ∀ i, i < K.x.m -> K.P i < 1024
  F : ∀ i, i < K.x.m -> K.F i < 1024
  v : gM K.x.n K.x.f = true
def cnt (s : Nat) : Nat := (bl s).length
def iV (m s : Nat) : Prop := s < 2 ^ m
theorem dP {m s : Nat} (hm : m <= 10) (h : iV m s) : s < 1024 := Nat.lt_of_lt_of_le h (show 2 ^ m <= 2 ^ 10 from Nat.pow_le_pow_right (by decide) hm)
theorem mH {m s i : Nat} (h : iV m s) (hi : s.testBit i = true) : i < m := by
  cases Nat.lt_or_ge i m with
  | inl g => exact g
  | inr g =>
    rw [Nat.testBit_lt_two_pow (Nat.lt_of_lt_of_le h (Nat.pow_le_pow_right (by decide) g))] at hi; cases hi
theorem rP {m s i : Nat} (h : iV m s) (hi : i ∈ bl s) : i < m := mH h (Aj.1 hi).2
def O4 (s : Nat) (z : List Nat × Nat) : Prop := z.1 ++ bl z.2 = bl s /\ z.2 < 1024
theorem Nv {s : Nat} (h : s < 1024) : O4 s ([], s) := ⟨rfl, h⟩
theorem MG {s r : Nat} {l : List Nat} (h : O4 s (l, r)) (h0 : 0 < r) : O4 s (l ++ [cz r], r &&& (r - 1)) /\ r &&& (r - 1) < r := by
  have e := Jv r h.2 h0
  refine ⟨⟨?_, Nat.lt_trans e.2.1 h.2⟩, e.2.1⟩
  have := h.1
  simp only at this ⊢
  rw [e.1] at this
  rw [List.append_assoc]; exact this
theorem Mw {s : Nat} {l : List Nat} (h : O4 s (l, 0)) : l = bl s := by have := h.1; simp only [aha, List.append_nil] at this; exact this
theorem D9 {s r m : Nat} {l : List Nat} (hs : iV m s) (h : O4 s (l, r)) (h0 : 0 < r) : cz r < m := by
  refine rP hs ?_
  rw [<- h.1]; simp only
  rw [(Jv r h.2 h0).1]; simp
theorem Q9 {s r : Nat} {l : List Nat} (h : O4 s (l, r)) : l.length <= 10 := by
  have h1 : l.length <= (bl s).length := by rw [<- h.1]; simp
  have h2 : (bl s).length <= 10 := by have := List.length_filter_le s.testBit (List.range 10); simpa [bl] using this
  omega
theorem yI {r : Nat} (h0 : 0 < r) (h : r < 1024) : bits .and .u64 (r : Int) (IntKind.u64.wrap ((r : Int) - 1)) = ((r &&& (r - 1) : Nat) : Int) := by
  rw [show (r : Int) - 1 = ((r - 1 : Nat) : Int) by omega, wrN _ (by omega)]; exact IQ (by omega) (by omega)
theorem wU {k : Nat} (h : k < 64) : IntKind.u64.wrap (1 * 2 ^ (min k 64)) = ((2 ^ k : Nat) : Int) := Z8 h
def xR (S : Nat -> aK) (l : List Nat) : List Int := l.map fun i => (S i).nu
theorem afV (S : Nat -> aK) (l : List Nat) (i : Nat) : xR S (l ++ [i]) = xR S l ++ [(S i).nu] := by simp [xR]
theorem FL (S : Nat -> aK) : xR S [] = [] := rfl
theorem kQ (S : Nat -> aK) (l : List Nat) : (xR S l).length = l.length := by simp [xR]
def Mj (P : Nat -> Nat) (a : Nat) (l : List Nat) : Nat := l.foldl (fun a i => a ||| P i) a
theorem ae9 (P : Nat -> Nat) (a : Nat) (l : List Nat) (i : Nat) : Mj P a (l ++ [i]) = Mj P a l ||| P i := by simp [Mj]
theorem RV {P : Nat -> Nat} : ∀ {l : List Nat} {a : Nat}, a < 1024 -> (∀ i, i ∈ l -> P i < 1024) -> Mj P a l < 1024
  | [], _, h, _ => h
  | i :: l, a, h, hp => RV (l := l) (NZ h (hp i (List.mem_cons_self ..))) fun j hj => hp j (List.mem_cons_of_mem _ hj)
theorem Ui (P : Nat -> Nat) (s : Nat) : iR P s = Mj P s (bl s) := rfl
theorem Iy {a p : Nat} (h : a < 1024) (hp : p < 1024) : bits .or .u64 (a : Int) (p : Int) = ((a ||| p : Nat) : Int) := ahi (by omega) (by omega)
theorem aiE {m : Nat} (h : m <= 10) : IntKind.u64.wrap (IntKind.u64.wrap (1 * 2 ^ (min (m : Int).toNat IntKind.u64.bits)) - 1) = ((2 ^ m - 1 : Nat) : Int) := by
  have h2 : 2 ^ m <= 2 ^ 10 := Nat.pow_le_pow_right (by decide) h
  have h0 : 0 < 2 ^ m := Nat.pow_pos (by decide)
  rw [Z8 (by omega), IntKind.wrap_u64]; omega
def lsA (a : Nat -> Int) (j : Nat) : Int := if j = 0 then 0 else a (j - 1)
theorem qN (a : Nat -> Int) : lsA a 0 = 0 := rfl
theorem oG (a : Nat -> Int) (j : Nat) : lsA a (j + 1) = a j := by unfold lsA; rw [if_neg (by omega)]; rfl
def qK (S : Nat -> aK) (m : Nat) (a : Nat -> Int) (j : Nat) : Prop := eT S m (a j) < m /\ lsA a j < a j
instance (S : Nat -> aK) (m : Nat) (a : Nat -> Int) (j : Nat) : Decidable (qK S m a j) := by unfold qK; infer_instance
def fK (S : Nat -> aK) (m q : Nat) (a : Nat -> Int) : Bool := decide (∀ j, j < q -> qK S m a j)
def JO (S : Nat -> aK) (m : Nat) (a : Nat -> Int) : Nat -> Nat
  | 0 => 0
  | j + 1 => JO S m a j ||| 2 ^ eT S m (a j)
theorem TU (S : Nat -> aK) (m : Nat) (a : Nat -> Int) : JO S m a 0 = 0 := rfl
theorem qI {S : Nat -> aK} {m : Nat} {a : Nat -> Int} : ∀ {j : Nat}, (∀ i, i < j -> qK S m a i) -> iV m (JO S m a j)
  | 0, _ => Nat.pow_pos (by decide)
  | j + 1, h => Nat.or_lt_two_pow (qI fun i hi => h i (by omega)) (Nat.pow_lt_pow_right (by decide) (h j (by omega)).1)
def Pv (S : Nat -> aK) (m q : Nat) (a : Nat -> Int) : Nat := if fK S m q a = true then JO S m a q else 0
theorem ZW {S : Nat -> aK} {m q : Nat} {a : Nat -> Int} {j : Nat} (hj : (j : Int) < q) (h : ¬ qK S m a j) : (0 : Int) = ((Pv S m q a : Nat) : Int) /\ false = fK S m q a := by
  have e : fK S m q a = false := decide_eq_false fun g => h (g j (by omega))
  unfold Pv; rw [e]; exact ⟨rfl, rfl⟩
theorem ae5 {S : Nat -> aK} {m q : Nat} {a : Nat -> Int} {j : Nat} (hj : (q : Int) <= j) (hj2 : j <= q) (h : ∀ i, i < j -> qK S m a i) : JO S m a j = Pv S m q a /\ true = fK S m q a := by
  have e0 : j = q := by omega
  subst e0
  have e : fK S m j a = true := decide_eq_true h
  unfold Pv; rw [e]; exact ⟨rfl, rfl⟩
def Cj (S : Nat -> aK) (m : Nat) (x : Int) : Int := if eT S m x < m then eT S m x else -1
theorem ZO {S : Nat -> aK} {m t : Nat} {x : Int} (ht : (t : Int) < m) (h : (S t).nu = x) (g : ∀ j, j < t -> (S j).nu ≠ x) : (t : Int) = Cj S m x := by
  have e : eT S m x = t := ku (b := fun i => decide ((S i).nu = x)) (decide_eq_true h) (fun j hj => decide_eq_false (g j hj)) m (by omega)
  unfold Cj; rw [e, if_pos (by omega)]
theorem aat {S : Nat -> aK} {m t : Nat} {x : Int} (ht : (m : Int) <= t) (g : ∀ j, j < t -> (S j).nu ≠ x) : -1 = Cj S m x := by
  have e : eT S m x = m := mO m fun j hj => decide_eq_false (g j (by omega))
  unfold Cj; rw [e, if_neg (by omega)]
theorem aeG (S : Nat -> aK) (m : Nat) (x : Int) : (Cj S m x = (eT S m x : Nat) /\ eT S m x < m) \/ (Cj S m x = -1 /\ m <= eT S m x) := by
  unfold Cj
  split
  · exact Or.inl ⟨rfl, by assumption⟩
  · exact Or.inr ⟨rfl, by omega⟩
theorem Ka {S : Nat -> aK} {m : Nat} {a : Nat -> Int} {j : Nat} (h : m <= eT S m (a j)) : ¬ qK S m a j := fun g => by have := g.1; omega
theorem LC {S : Nat -> aK} {m : Nat} {a : Nat -> Int} {j : Nat} (h : a j <= lsA a j) : ¬ qK S m a j := fun g => by have := g.2; omega
theorem ac2 {S : Nat -> aK} {m : Nat} (hm : m <= 10) {a : Nat -> Int} {j : Nat} (h : ∀ i, i < j -> qK S m a i) (hk : eT S m (a j) < m) : bits .or .u64 (JO S m a j : Int) ((2 ^ eT S m (a j) : Nat) : Int) = ((JO S m a (j + 1) : Nat) : Int) := by
  have h1 := dP hm (qI h)
  have h2 := xw (k := eT S m (a j)) (by omega)
  exact ahi (by omega) (by omega)
theorem aei {P : Nat -> Nat} {a : Nat} {l : List Nat} {i : Nat} (h : Mj P a l < 1024) (hp : P i < 1024) : bits .or .u64 (Mj P a l : Int) (P i : Int) = ((Mj P a (l ++ [i]) : Nat) : Int) := by rw [ae9]; exact Iy h hp
theorem Yq {s r m : Nat} {l : List Nat} (hs : iV m s) (h : O4 s (l, r)) : ∀ i, i ∈ l -> i < m := fun i hi => rP hs (by rw [<- h.1]; exact List.mem_append_left _ hi)
theorem G9 (P : Nat -> Nat) (a : Nat) : Mj P a [] = a := rfl
theorem acH (s : Nat) (hs : s < 1024) : au Tryz.prog 113 [.one (.g (.int .u64 ((s : Int))))] (.t (.one (.g (.int .i64 ((cnt s : Nat)))))) := by
  refine ah Tryz.func113 rfl (by rw [Tryz.ntmps113]; simp) ?_
  simp only [Tryz.ntmps113, zM, PT.tv, ak, Nat.zero_add, Nat.reduceAdd]
  repeat' (first
 | ((with_reducible show AW _ _ _ _); first
 | (with_reducible first | refine aS (fun K hK => ?_) | refine aT ?_)
 | (first
 | (with_reducible first | refine aP 0 [0] ?_ | refine aP 1 [0] ?_ | refine aP 2 [0] ?_ | refine aP 3 [0] ?_ | refine aP 4 [0] ?_ | refine aP 5 [0] ?_ | refine aP 6 [0] ?_ | refine aP 7 [0] ?_)))
 | (((with_reducible refine And.intro ?_ ?_)); focus (omega))
 | (with_reducible refine aA ?_)
 | ((fail_if_success (with_reducible show AW _ _ _ _)); simp (maxSteps := 2000000) only [go_sem, reduceIte, reduceCtorEq, xA, xL, xD, xE, xM, xS, xB, Tryz.f113])
 | ((with_reducible refine hK _ ?_); clear hK K))
  all_goals ((revert hs; revert s; decide +kernel))
theorem ajg (s : Nat) (hs : s < 1024) : au Tryz.prog 83 [.one (.g (.int .u64 ((s : Int))))] (.t (.one (.g (.int .i64 ((cnt s : Nat)))))) := by
  refine ah Tryz.func83 rfl (by rw [Tryz.ntmps83]; simp) ?_
  simp only [Tryz.ntmps83, zM, PT.tv, ak, Nat.zero_add, Nat.reduceAdd]
  repeat' (first
 | ((with_reducible show AW _ _ _ _); first
 | (with_reducible first | refine aS (fun K hK => ?_) | refine aI ?_ | refine aT ?_ | refine aC ?_)
 | (first
 | (with_reducible first | refine aP 0 [0] ?_ | refine aP 2 [0] ?_)))
 | (((with_reducible refine Need.mk ?_)); focus (exact True.intro))
 | (with_reducible refine aA ?_)
 | ((with_reducible show aY _ _ _ _ _ _); first
 | ((with_reducible refine aH ?_ ?_) <;> (intro hc; (try simp only [zB, zC, reduceCtorEq] at hc); (try (exfalso; contradiction)))))
 | ((with_reducible show aN _ _ _ _ _ _ _ _ _ _); first
 | (refine aj (k := 113) IL (acH s hs) ?_ ?_))
 | ((fail_if_success (with_reducible show AW _ _ _ _)); simp (maxSteps := 2000000) only [go_sem, reduceIte, reduceCtorEq, xA, xL, xD, xE, xM, xS, xB, Tryz.f83])
 | ((with_reducible refine hK _ ?_); clear hK K))
theorem oV (s : Nat) (hs : s < 1024) : au Tryz.prog 51 [.one (.g (.int .u64 ((s : Int))))] (.t (.one (.g (.int .i64 ((cnt s : Nat)))))) := by
  refine ah Tryz.func51 rfl (by rw [Tryz.ntmps51]; simp) ?_
  simp only [Tryz.ntmps51, zM, PT.tv, ak, Nat.zero_add, Nat.reduceAdd]
  repeat' (first
 | ((with_reducible show AW _ _ _ _); first
 | (with_reducible first | refine aS (fun K hK => ?_) | refine aT ?_)
 | (first
 | (with_reducible first | refine aP 0 [0] ?_ | refine aP 1 [0] ?_)))
 | (((with_reducible refine Need.mk ?_)); focus (exact True.intro))
 | (with_reducible refine aA ?_)
 | ((with_reducible show aN _ _ _ _ _ _ _ _ _ _); first
 | (refine aj (k := 83) MQ (ajg s hs) ?_ ?_))
 | ((fail_if_success (with_reducible show AW _ _ _ _)); simp (maxSteps := 2000000) only [go_sem, reduceIte, reduceCtorEq, xA, xL, xD, xE, xM, xS, xB, Tryz.f51])
 | ((with_reducible refine hK _ ?_); clear hK K))
theorem ZH (s t : Nat) (hs : s < 1024) (ht : t < 1024) : au Tryz.prog 52 [.one (.g (.int .u64 ((s : Int)))), .one (.g (.int .u64 ((t : Int))))] (.t (.one (.g (.bool (xU s t))))) := by
  refine ah Tryz.func52 rfl (by rw [Tryz.ntmps52]; simp) ?_
  simp only [Tryz.ntmps52, zM, PT.tv, ak, Nat.zero_add, Nat.reduceAdd]
  repeat' (first
 | ((with_reducible show AW _ _ _ _); first
 | (with_reducible first | refine aS (fun K hK => ?_) | refine aT ?_)
 | (first
 | (with_reducible first | refine aP 0 [0,1] ?_ | refine aP 1 [0,1] ?_ | refine aP 2 [0,5] ?_)))
 | (with_reducible refine aA ?_)
 | ((fail_if_success (with_reducible show AW _ _ _ _)); simp (maxSteps := 2000000) only [go_sem, reduceIte, reduceCtorEq, xA, xL, xD, xE, xM, xS, xB, Tryz.f52])
 | ((with_reducible refine hK _ ?_); clear hK K))
  all_goals (exact af9 hs ht)
theorem MW (Y : xP) (hY : Y.Ok) : au Tryz.prog 58 [.one (.ptr 6 (EK Y))] (.t (.one (.g (.int .u64 (((2 ^ Y.x.m - 1 : Nat) : Int)))))) := by
  have hm := hY.m
  refine ah Tryz.func58 rfl (by rw [Tryz.ntmps58]; simp) ?_
  simp only [Tryz.ntmps58, zM, PT.tv, ak, Nat.zero_add, Nat.reduceAdd]
  repeat' (first
 | (refine wF rfl rfl (by omega) ?_)
 | ((with_reducible show AW _ _ _ _); first
 | (with_reducible first | refine aS (fun K hK => ?_) | refine aT ?_)
 | (first
 | (with_reducible first | refine aP 0 [0] ?_ | refine aP 1 [0] ?_)))
 | (with_reducible refine aA ?_)
 | ((fail_if_success (with_reducible show AW _ _ _ _)); simp (maxSteps := 2000000) only [go_sem, reduceIte, reduceCtorEq, xA, xL, xD, xE, xM, xS, xB, Tryz.f58, lK, jI, lW, jQ, lG, kK, wY, bJ, bI, dD])
 | ((with_reducible refine hK _ ?_); clear hK K))
  all_goals (exact aiE hm)
theorem aeU (Y : xP) (hY : Y.Ok) (y : Int) : au Tryz.prog 66 [.one (.ptr 6 (EK Y)), .one (.g (.int .i64 y))] (.t (.one (.g (.int .i64 (Cj Y.x.S Y.x.m y))))) := by
  have hm := hY.m
  refine ah Tryz.func66 rfl (by rw [Tryz.ntmps66]; simp) ?_
  simp only [Tryz.ntmps66, zM, PT.tv, ak, Nat.zero_add, Nat.reduceAdd]
  repeat' (first
 | ((with_reducible show AW _ _ _ _); first
 | (with_reducible first | refine aS (fun K hK => ?_) | refine aI ?_ | refine aX ?_ | refine aT ?_ | refine aC ?_ | refine aB ?_)
 | (first
 | (with_reducible first | refine aP (ops := #[⟨some 3, _, _, _, _, _⟩, _]) 0 [0,1] ?_ | refine aP (ops := #[⟨some 4, _, _, _, _, _⟩]) 0 [0,1] ?_ | refine aP (ops := #[⟨some 2, _, _, _, _, _⟩, _]) 0 [0,1] ?_ | refine aP (ops := #[⟨some 5, _, _, _, _, _⟩, _, _, _, _, _, _]) 1 [0,3] ?_ | refine aP (ops := #[⟨some 6, _, _, _, _, _⟩, _, _]) 1 [0,1] ?_ | refine aP (ops := #[⟨some 4, _, _, _, _, _⟩, _, _, _, _]) 1 [1,2] ?_ | refine aP 2 [0,1,7,8] ?_ | refine aP 3 [0,1,7,8] ?_ | refine aP 4 [0,1,5,7,8] ?_ | refine aP 5 [5] ?_ | refine aP 6 [0,1,7,8] ?_ | refine aP 7 [] ?_))
 | ((with_reducible show AW _ (Code.loop _) _ _); first
 | ((with_reducible refine aL (c := (Code.seq (Code.region 2 _ _) _)) (ι := Nat) [0,1,7] (fun t => [(8, iA .i64 (t : Int))]) (fun t => []) (fun t => t <= Y.x.m /\ (∀ t', t' < t -> (Y.x.S t').nu ≠ y)) (fun t => Y.x.m - t) 0 ?lg2 ?l12 ?l22 ?li2 ?lr2); (case' lg2 => rintro t _); (case' li2 => try (exact ⟨Nat.zero_le _, fun i hi => absurd hi (Nat.not_lt_zero _)⟩)); (case' lr2 => rintro t ⟨hi, hai⟩ KR hR2; simp only [bf, bN, hset, lk, if_true, if_false, xE, reduceIte, zN, lK, jI, lW, jQ, lG, kK, wY, bJ, bI, dD]))))
 | (((with_reducible refine And.intro ?_ ?_)); focus (omega))
 | (with_reducible refine aA ?_)
 | ((with_reducible show aY _ _ _ _ _ _); first
 | ((with_reducible refine aH ?_ ?_) <;> (intro hc; (try simp only [zB, zC, reduceCtorEq] at hc); (try (exfalso; contradiction)))))
 | ((with_reducible refine hR2 _ (t + 1) ?_); (try clear hR2 KR))
 | ((with_reducible refine Told.mk ?_); simp only [go_sem, reduceIte, reduceCtorEq, xA, xL, xD, xE, xM, xS, xB, lK, jI, lW, jQ, lG, kK, wY, bJ, bI, dD] <;> ((((try simp (disch := omega) only [aJ, Int.natCast_add, Int.cast_ofNat_Int, and_true, true_and, and_self]); (repeat' (first | omega | (with_reducible refine And.intro ?_ ?_) | (exact all_succ (by assumption) (by assumption)) )); done))))
 | ((fail_if_success (with_reducible show AW _ _ _ _)); simp (maxSteps := 2000000) only [go_sem, reduceIte, reduceCtorEq, xA, xL, xD, xE, xM, xS, xB, Tryz.f66, Tryz.f99, Tryz.f100, lK, jI, lW, jQ, lG, kK, wY, bJ, bI, dD])
 | ((with_reducible show aN _ _ _ _ _ _ _ _ _ _); first
 | ((refine bY (k := 99) Tryz.func99 rfl vK (by rw [Tryz.ntmps99]; simp) ?_ ?_ (fun K hK => ?_)); (focus (exact True.intro)); (focus ((simp [iM]; done))); simp only [Tryz.ntmps99, List.map_cons, List.map_nil, List.nil_append, List.cons_append, List.append_nil, LV.tv, ak, Nat.zero_add, Nat.reduceAdd])
 | ((refine gK (k := 100) Tryz.func100 rfl GJ (by rw [Tryz.ntmps100]; simp) ?_ ?_ (fun K hK => ?_)); (focus (exact True.intro)); (focus ((simp [iM]; done))); simp only [Tryz.ntmps100, List.map_cons, List.map_nil, List.nil_append, List.cons_append, List.append_nil, LV.tv, ak, Nat.zero_add, Nat.reduceAdd]))
 | ((with_reducible refine hK _ ?_); clear hK K)
 | (with_reducible apply_assumption -exfalso only [*]))
  all_goals (first | exact ZO (by omega) hc hai | exact aat (by omega) hai)
theorem ZI (Y : xP) (hY : Y.Ok) (s : Nat) (hin : iV Y.x.m s) : au Tryz.prog 53 [.one (.ptr 6 (EK Y)), .one (.g (.int .u64 ((s : Int))))] (.t (.one (.lst 1 (cnt s) (bG (zL (xR Y.x.S (bl s))))))) := by
  have hm := hY.m
  have hs := dP hm hin
  have mk0 : True := trivial
  have mk1 : True := trivial
  have hpr : True := trivial
  have hor : True := trivial
  refine ah Tryz.func53 rfl (by rw [Tryz.ntmps53]; simp) ?_
  simp only [Tryz.ntmps53, zM, PT.tv, ak, Nat.zero_add, Nat.reduceAdd]
  repeat' (first
 | ((with_reducible show AW _ _ _ _); first
 | (with_reducible first | refine aS (fun K hK => ?_) | refine aI ?_ | refine aX ?_ | refine aT ?_ | refine aC ?_ | refine aB ?_)
 | ((refine fJ (k := 110) rfl Tryz.func110 rfl BM (by rw [Tryz.ntmps110]; simp) ?_ ?_ (fun l hlne A B hA hB => ?_)); (focus (simp (maxSteps := 2000000) only [go_sem, reduceIte, reduceCtorEq, xA, xL, xD, xE, xM, xS, xB, Tryz.f53, Tryz.f110, Tryz.f81, lK, jI, lW, jQ, lG, kK, wY, bJ, bI, dD, hpr, FL, aZ, bH, aW, kQ, maxLen, bG]; try exact True.intro)); (focus (simp (maxSteps := 2000000) only [go_sem, reduceIte, reduceCtorEq, xA, xL, xD, xE, xM, xS, xB, Tryz.f53, Tryz.f110, Tryz.f81, lK, jI, lW, jQ, lG, kK, wY, bJ, bI, dD, hpr, FL, aZ, bH, aW, kQ, maxLen, bG]; try exact True.intro)); simp only [Tryz.ntmps110, List.map_cons, List.map_nil, LV.tv, ak, yV, Nat.zero_add, Nat.reduceAdd]; clear hlne)
 | (with_reducible refine Bw (by assumption) ?_)
 | (first
 | (with_reducible first | refine aP (ops := #[⟨some 2, _, _, _, _, _⟩, _]) 0 [0,1,9] ?_ | refine aP (ops := #[⟨some 4, _, _, _, _, _⟩, _]) 0 [0,1] ?_ | refine aP (ops := #[⟨some 1, _, _, _, _, _⟩, _]) 0 [0] ?_ | refine aP (ops := #[⟨some 5, _, _, _, _, _⟩]) 1 [1,2,9] ?_ | refine aP (ops := #[⟨some 5, _, _, _, _, _⟩, _]) 1 [0,3] ?_ | refine aP (ops := #[⟨some 3, _, _, _, _, _⟩, _]) 1 [1] ?_ | refine aP (ops := #[⟨some 7, _, _, _, _, _⟩, _]) 2 [1,2,5,9] ?_ | refine aP (ops := #[⟨some 7, _, _, _, _, _⟩, _, _, _, _]) 2 [0,3] ?_ | refine aP (ops := #[⟨some 6, _, _, _, _, _⟩]) 3 [2,5,9] ?_ | refine aP (ops := #[⟨some 11, _, _, _, _, _⟩, _, _, _, _]) 3 [0,3] ?_)
 | ((with_reducible refine aR (c := Code.region 4 _ true) [2,5,6,9] ?_); (with_reducible refine zH 10 ?_ ?_ ?_ ?_ ?_); (focus kernel_rfl); (focus kernel_rfl); (focus kernel_rfl); (focus kernel_rfl))
 | (with_reducible refine aP 5 [5] ?_))
 | ((with_reducible show AW _ (Code.loop _) _ _); first
 | ((with_reducible refine aL (c := (Code.seq (Code.seq (Code.region 1 _ _) _) _)) (ι := List Nat × Nat) [0] (fun ⟨l, r⟩ => [(3, .t (.one (.iv (.g (.int .u64 (r : Int))))))]) (fun ⟨l, r⟩ => [(1, [.slc 3 0 l.length 1]), (3, dL (xR Y.x.S l))]) (fun ⟨l, r⟩ => O4 s (l, r)) (fun ⟨l, r⟩ => r) ([], s) ?lg1 ?l11 ?l21 ?li1 ?lr1); (case' lg1 => rintro ⟨l, r⟩ _); (case' li1 => try (exact Nv hs)); (case' lr1 => rintro ⟨l, r⟩ hz KR hR1; simp only [bf, bN, hset, lk, if_true, if_false, xE, reduceIte, zN, lK, jI, lW, jQ, lG, kK, wY, bJ, bI, dD, hpr, FL, aZ, bH, aW, kQ, maxLen]))))
 | ((first | (with_reducible refine And.intro ?_ ?_) | (with_reducible refine Need.mk ?_)); focus (first | exact True.intro | omega))
 | (with_reducible refine aA ?_)
 | ((with_reducible show aY _ _ _ _ _ _); first
 | ((with_reducible refine aH ?_ ?_) <;> (intro hc; (try simp only [zB, zC, reduceCtorEq] at hc); ((try (clear mk0 hpr; have h0 : 0 < r := (by omega); have hz2 := MG hz h0; have hr := hz.2; have hcz := D9 hin hz h0; have hpr := yI h0 hr; have hle := Q9 hz))); (try (exfalso; contradiction)))))
 | ((with_reducible refine And.intro ?_ ?_); focus (((with_reducible show sN _ _ _ _ = true); kernel_rfl)))
 | ((with_reducible show aN _ _ _ _ _ _ _ _ _ _); first
 | (refine aj (k := 111) qm (V8 r hz.2) ?_ ?_)
 | ((refine bY (k := 81) Tryz.func81 rfl yt (by rw [Tryz.ntmps81]; simp) ?_ ?_ (fun K hK => ?_)); (focus (exact True.intro)); (focus ((simp [iM]; done))); simp only [Tryz.ntmps81, List.map_cons, List.map_nil, List.nil_append, List.cons_append, List.append_nil, LV.tv, ak, Nat.zero_add, Nat.reduceAdd]))
 | ((with_reducible refine hR1 _ (l ++ [cz r], r &&& (r - 1)) ?_); (try clear hR1 KR))
 | ((with_reducible refine Told.mk ?_); simp only [go_sem, reduceIte, reduceCtorEq, xA, xL, xD, xE, xM, xS, xB, lK, jI, lW, jQ, lG, kK, wY, bJ, bI, dD, hpr, FL, aZ, bH, aW, kQ, maxLen, bG] <;> ((((try simp (disch := omega) only [aJ, Int.natCast_add, Int.cast_ofNat_Int, and_true, true_and, and_self]); (repeat' (first | omega | rfl | (with_reducible refine And.intro ?_ ?_) | ((exact hz2.1)) | ((rw [afV]; exact bO rfl (bU _))) | ((simp only [List.length_append, List.length_cons, List.length_nil, Nat.zero_add]; done)))); done))))
 | ((fail_if_success (with_reducible show AW _ _ _ _)); simp (maxSteps := 2000000) only [go_sem, reduceIte, reduceCtorEq, xA, xL, xD, xE, xM, xS, xB, Tryz.f53, Tryz.f110, Tryz.f81, lK, jI, lW, jQ, lG, kK, wY, bJ, bI, dD, hpr, FL, aZ, bH, aW, kQ, maxLen, bG])
 | ((with_reducible show aN _ _ _ _ _ _ (.yld _) _ _ _); (refine nX (by simp only [Fj, if_true]; exact rfl) ?_ (by simp) ?_ ?_ (fun K hK => ?_)); (focus (exact True.intro)); (focus (simp [oI])); (focus ((simp [iM]; done))); simp only [jw, gf, if_true, Nat.reduceAdd])
 | ((with_reducible refine hK _ ?_); clear hK K)
 | (with_reducible apply_assumption -exfalso only [*]))
  all_goals ((have e0 : r = 0 := (by omega); subst e0; have hl := Mw hz; subst hl; exact ⟨fun c hc9 => (by have := bU _ c hc9; cases c <;> trivial), rfl, fun i o hi ho => p9 _ i o (by simpa [xR, cnt] using hi) ho⟩))
theorem aau (Y : xP) (hY : Y.Ok) (s : Nat) (hin : iV Y.x.m s) : au Tryz.prog 49 [.one (.ptr 6 (EK Y)), .one (.g (.int .u64 ((s : Int))))] (.t (.one (.g (.int .u64 ((iR Y.P s : Nat)))))) := by
  have hm := hY.m
  have hs := dP hm hin
  have mk0 : True := trivial
  have mk1 : True := trivial
  have hpr : True := trivial
  have hor : True := trivial
  refine ah Tryz.func49 rfl (by rw [Tryz.ntmps49]; simp) ?_
  simp only [Tryz.ntmps49, zM, PT.tv, ak, Nat.zero_add, Nat.reduceAdd]
  repeat' (first
 | ((with_reducible show AW _ _ _ _); first
 | (with_reducible first | refine aS (fun K hK => ?_) | refine aI ?_ | refine aX ?_ | refine aT ?_ | refine aC ?_ | refine aB ?_)
 | ((refine fJ (k := 110) rfl Tryz.func110 rfl BM (by rw [Tryz.ntmps110]; simp) ?_ ?_ (fun l hlne A B hA hB => ?_)); (focus (simp (maxSteps := 2000000) only [go_sem, reduceIte, reduceCtorEq, xA, xL, xD, xE, xM, xS, xB, Tryz.f49, Tryz.f110, Tryz.f81, lK, jI, lW, jQ, lG, kK, wY, bJ, bI, dD, hpr, hor, G9]; try exact True.intro)); (focus (simp (maxSteps := 2000000) only [go_sem, reduceIte, reduceCtorEq, xA, xL, xD, xE, xM, xS, xB, Tryz.f49, Tryz.f110, Tryz.f81, lK, jI, lW, jQ, lG, kK, wY, bJ, bI, dD, hpr, hor, G9]; try exact True.intro)); simp only [Tryz.ntmps110, List.map_cons, List.map_nil, LV.tv, ak, yV, Nat.zero_add, Nat.reduceAdd]; clear hlne)
 | (with_reducible refine Bw (by assumption) ?_)
 | (first
 | (with_reducible first | refine aP (ops := #[⟨some 2, _, _, _, _, _⟩, _]) 0 [0,1,10] ?_ | refine aP (ops := #[⟨some 4, _, _, _, _, _⟩, _]) 0 [0,1] ?_ | refine aP (ops := #[⟨some 1, _, _, _, _, _⟩, _]) 0 [0] ?_ | refine aP (ops := #[⟨some 7, _, _, _, _, _⟩, _, _]) 1 [1,2,10] ?_ | refine aP (ops := #[⟨some 5, _, _, _, _, _⟩, _]) 1 [0,3] ?_ | refine aP (ops := #[⟨some 3, _, _, _, _, _⟩, _]) 1 [1] ?_ | refine aP (ops := #[⟨some 8, _, _, _, _, _⟩, _]) 2 [1,2,5,10] ?_ | refine aP (ops := #[⟨some 7, _, _, _, _, _⟩, _, _, _, _]) 2 [0,3] ?_ | refine aP (ops := #[⟨some 6, _, _, _, _, _⟩]) 3 [2,5,10] ?_ | refine aP (ops := #[⟨some 11, _, _, _, _, _⟩, _, _, _, _]) 3 [0,3] ?_)
 | ((with_reducible refine aR (c := Code.region 4 _ true) [2,5,6,10] ?_); (with_reducible refine aD ?_ ?_ ?_ ?_); (focus kernel_rfl); (focus kernel_rfl); (focus kernel_rfl))
 | (with_reducible refine aP 5 [5] ?_))
 | ((with_reducible show AW _ (Code.loop _) _ _); first
 | ((with_reducible refine aL (c := (Code.seq (Code.seq (Code.region 1 _ _) _) _)) (ι := List Nat × Nat) [0] (fun ⟨l, r⟩ => [(3, .t (.one (.iv (.g (.int .u64 (r : Int))))))]) (fun ⟨l, r⟩ => [(1, [.iv (.g (.int .u64 (Mj Y.P s l : Nat)))])]) (fun ⟨l, r⟩ => O4 s (l, r)) (fun ⟨l, r⟩ => r) ([], s) ?lg1 ?l11 ?l21 ?li1 ?lr1); (case' lg1 => rintro ⟨l, r⟩ _); (case' li1 => try (exact Nv hs)); (case' lr1 => rintro ⟨l, r⟩ hz KR hR1; simp only [bf, bN, hset, lk, if_true, if_false, xE, reduceIte, zN, lK, jI, lW, jQ, lG, kK, wY, bJ, bI, dD, hpr, hor, G9]))))
 | ((first | (with_reducible refine And.intro ?_ ?_) | (with_reducible refine Need.mk ?_)); focus (first | exact True.intro | omega))
 | (with_reducible refine aA ?_)
 | ((with_reducible show aY _ _ _ _ _ _); first
 | ((with_reducible refine aH ?_ ?_) <;> (intro hc; (try simp only [zB, zC, reduceCtorEq] at hc); ((try (clear mk0 hpr; have h0 : 0 < r := (by omega); have hz2 := MG hz h0; have hr := hz.2; have hcz := D9 hin hz h0; have hpr := yI h0 hr; have hle := Q9 hz)); (try (clear mk1 hor; have hol := RV (P := Y.P) (l := l) hs (fun i hi => hY.P i (Yq hin hz i hi)); have hor := aei hol (hY.P _ hcz)))); (try (exfalso; contradiction)))))
 | ((with_reducible refine And.intro ?_ ?_); focus ((with_reducible show fB _ _ _ = true); kernel_rfl))
 | ((with_reducible show aN _ _ _ _ _ _ _ _ _ _); first
 | (refine aj (k := 111) qm (V8 r hz.2) ?_ ?_)
 | ((refine bY (k := 81) Tryz.func81 rfl yt (by rw [Tryz.ntmps81]; simp) ?_ ?_ (fun K hK => ?_)); (focus (exact True.intro)); (focus ((simp [iM]; done))); simp only [Tryz.ntmps81, List.map_cons, List.map_nil, List.nil_append, List.cons_append, List.append_nil, LV.tv, ak, Nat.zero_add, Nat.reduceAdd]))
 | ((with_reducible refine hR1 _ (l ++ [cz r], r &&& (r - 1)) ?_); (try clear hR1 KR))
 | ((with_reducible refine Told.mk ?_); simp only [go_sem, reduceIte, reduceCtorEq, xA, xL, xD, xE, xM, xS, xB, lK, jI, lW, jQ, lG, kK, wY, bJ, bI, dD, hpr, hor, G9] <;> ((((try simp (disch := omega) only [aJ, Int.natCast_add, Int.cast_ofNat_Int, and_true, true_and, and_self]); (repeat' (omega)); done))))
 | ((fail_if_success (with_reducible show AW _ _ _ _)); simp (maxSteps := 2000000) only [go_sem, reduceIte, reduceCtorEq, xA, xL, xD, xE, xM, xS, xB, Tryz.f49, Tryz.f110, Tryz.f81, lK, jI, lW, jQ, lG, kK, wY, bJ, bI, dD, hpr, hor, G9])
 | ((with_reducible show aN _ _ _ _ _ _ (.yld _) _ _ _); (refine nX (by simp only [Fj, if_true]; exact rfl) ?_ (by simp) ?_ ?_ (fun K hK => ?_)); (focus (exact True.intro)); (focus (simp [oI])); (focus ((simp [iM]; done))); simp only [jw, gf, if_true, Nat.reduceAdd])
 | ((with_reducible refine hK _ ?_); clear hK K)
 | (with_reducible apply_assumption -exfalso only [*]))
  all_goals ((have e0 : r = 0 := (by omega); subst e0; have hl := Mw hz; subst hl; exact rfl))
theorem acg (Y : xP) (hY : Y.Ok) (q : Nat) (a : Nat -> Int) (hq : q <= 9223372036854775807) : au Tryz.prog 75 [.one (.ptr 6 (EK Y)), .one (.lst 1 q (bG a))] (.tup [.one (.g (.int .u64 ((Pv Y.x.S Y.x.m q a : Nat)))), .one (.g (.bool (fK Y.x.S Y.x.m q a)))]) := by
  have hm := hY.m
  have mk0 : True := trivial
  have mk1 : True := trivial
  have hix : True := trivial
  have hsh : True := trivial
  have hor : True := trivial
  refine ah Tryz.func75 rfl (by rw [Tryz.ntmps75]; simp) ?_
  simp only [Tryz.ntmps75, zM, PT.tv, ak, Nat.zero_add, Nat.reduceAdd]
  repeat' (first
 | (refine wF rfl rfl (by omega) ?_)
 | ((with_reducible show AW _ _ _ _); first
 | (with_reducible first | refine aS (fun K hK => ?_) | refine aI ?_ | refine aX ?_ | refine aT ?_ | refine aC ?_ | refine aB ?_)
 | (first
 | (with_reducible first | refine aP 0 [0,1] ?_ | refine aP 1 [0,1] ?_ | refine aP 2 [0,1,6] ?_ | refine aP 3 [0,1,6,7] ?_ | refine aP 4 [0,6,7,11,12,13] ?_ | refine aP 5 [0,6,7,11,12,13] ?_ | refine aP 6 [0,6,7,9,11,12,13] ?_ | refine aP 7 [0,6,7,9,10,11,12,13] ?_ | refine aP 8 [] ?_ | refine aP 9 [0,6,9,10,11,12,13] ?_ | refine aP 10 [0,6,9,11,12,13] ?_ | refine aP 11 [0,6,7,11,12,13] ?_ | refine aP 12 [6] ?_))
 | ((with_reducible show AW _ (Code.loop _) _ _); first
 | ((with_reducible refine aL (c := (Code.seq (Code.region 4 _ _) _)) (ι := Nat) [0,11,12] (fun j => [(6, .t (.one (.iv (.g (.int .u64 (JO Y.x.S Y.x.m a j : Nat)))))), (7, iA .i64 (lsA a j)), (13, iA .i64 (j : Int))]) (fun j => []) (fun j => j <= q /\ (∀ j', j' < j -> qK Y.x.S Y.x.m a j')) (fun j => q - j) 0 ?lg4 ?l14 ?l24 ?li4 ?lr4); (case' lg4 => rintro j _); (case' li4 => try (exact ⟨Nat.zero_le _, fun i hi => absurd hi (Nat.not_lt_zero _)⟩)); (case' lr4 => rintro j ⟨hj, haj⟩ KR hR4; simp only [bf, bN, hset, lk, if_true, if_false, xE, reduceIte, zN, lK, jI, lW, jQ, lG, kK, wY, bJ, bI, dD, hix, hsh, hor, oG, qN, TU, n00]))))
 | ((first | (with_reducible refine And.intro ?_ ?_) | (with_reducible refine Need.mk ?_)); focus (first | exact True.intro | omega | (simp; done)))
 | (with_reducible refine aA ?_)
 | ((with_reducible show aY _ _ _ _ _ _); first
 | ((with_reducible refine aH ?_ ?_) <;> (intro hc; (try simp only [zB, zC, reduceCtorEq] at hc); ((try (clear mk0 hix hsh hor; rcases aeG Y.x.S Y.x.m (a j) with ⟨hix, hlt⟩ | ⟨hix, hlt⟩; all_goals (first | (have hsh := wU (k := eT Y.x.S Y.x.m (a j)) (by omega); have hor := ac2 hm haj hlt) | (have hsh : True := trivial; have hor : True := trivial))))); (try (exfalso; omega)))))
 | ((with_reducible show aN _ _ _ _ _ _ _ _ _ _); first
 | (refine aj (k := 66) E5 (aeU Y hY (a j)) ?_ ?_))
 | ((with_reducible refine hR4 _ (j + 1) ?_); (try clear hR4 KR))
 | ((with_reducible refine Told.mk ?_); simp only [go_sem, reduceIte, reduceCtorEq, xA, xL, xD, xE, xM, xS, xB, lK, jI, lW, jQ, lG, kK, wY, bJ, bI, dD, bG, hix, hsh, hor, oG, qN, TU, n00] <;> ((((try simp (disch := omega) only [aJ, Int.natCast_add, Int.cast_ofNat_Int, and_true, true_and, and_self]); (repeat' (first | omega | (with_reducible refine And.intro ?_ ?_) | ((exact all_succ (by assumption) ⟨by assumption, by omega⟩)))); done))))
 | ((fail_if_success (with_reducible show AW _ _ _ _)); simp (maxSteps := 2000000) only [go_sem, reduceIte, reduceCtorEq, xA, xL, xD, xE, xM, xS, xB, Tryz.f75, lK, jI, lW, jQ, lG, kK, wY, bJ, bI, dD, bG, hix, hsh, hor, oG, qN, TU, n00])
 | ((with_reducible refine hK _ ?_); clear hK K)
 | (with_reducible apply_assumption -exfalso only [*]))
  all_goals (first | exact ZW (by omega) (Ka hlt) | exact ZW (by omega) (LC (by omega)) | (have e := ae5 (by omega) hj haj; rw [<- e.1]; exact ⟨rfl, e.2⟩))
end Go.Proofs.YtmnejmpjmniiiaaGreatDoor
namespace Go.Proofs.YtmnejmpjmniiiaaGreatDoor
open Go.RowKit Go.Sea
open Nat renaming reduceAdd -> xA, reduceLT -> xL, reduceLeDiff -> xD, reduceEqDiff -> xE, reduceMul -> xM, reduceSub -> xS, reduceBEq -> xB
theorem LZ : aM Tryz.prog 34 = true := by kernel_rfl
theorem EN : aM Tryz.prog 49 = true := by kernel_rfl
theorem Oo : aM Tryz.prog 82 = true := by kernel_rfl
theorem Wz : dB Tryz.prog 73 0 = some 0 := by kernel_rfl
theorem Zb : dB Tryz.prog 73 2 = some 2 := by kernel_rfl
theorem Zf : dB Tryz.prog 73 4 = some 4 := by kernel_rfl
theorem Zh : mU Tryz.prog 22 = some (false, 1) := by kernel_rfl
theorem agF : mU Tryz.prog 24 = some (false, 1) := by kernel_rfl
theorem afB : eX Tryz.prog 22 = some [.iv (.g (.slice none 0 0))] := by kernel_rfl
attribute [go_sem] LZ EN Oo Wz Zb Zf Zh agF afB
theorem Qy {P : Program} {k : FuncId} {ts : List TV} {cs : List CV} {r : Nat -> AV} (h : pY P k ts cs r) {H : List (Option (List CV))} {i : Nat} (hi : hget H i = none) : mM P k ts H (r i) (hset H i cs) := h H i hi
theorem uD (c : Nat -> IV) : ∀ n k, (dI c n k).length = n
  | 0, _ => rfl
  | n + 1, k => by simp [dI, uD c n (k + 1)]
theorem Iw (c : Nat -> IV) : ∀ n k o, o < n -> (dI c n k)[o]? = some (.iv (c (k + o)))
  | n + 1, k, 0, _ => by simp [dI]
  | n + 1, k, o + 1, h => by
    simp only [dI, List.getElem?_cons_succ]
    rw [Iw c n (k + 1) o (by omega), show k + 1 + o = k + (o + 1) by omega]
theorem Cy (f : Nat -> Nat -> IV) (E : Nat) : ∀ n k i o, i < n -> o < E -> (iD f E n k)[i * E + o]? = some (.iv (f (k + i) o))
  | n + 1, k, 0, o, _, ho => by
    simp only [iD, Nat.zero_mul, Nat.zero_add]
    rw [List.getElem?_append_left (by rw [uD]; exact ho), Iw _ _ _ _ ho, Nat.zero_add]; rfl
  | n + 1, k, i + 1, o, h, ho => by
    simp only [iD]
    rw [show (i + 1) * E + o = E + (i * E + o) by rw [Nat.add_mul]; omega, List.getElem?_append_right (by rw [uD]; omega), uD, Nat.add_sub_cancel_left, Cy f E n (k + 1) i o (by omega) ho, show k + 1 + i = k + (i + 1) by omega]
theorem WL (f : Nat -> IV) : ∀ (m k : Nat) (c : CV), c ∈ dI f m k -> kg c := by
  intro m
  induction m with
  | zero => intro k c h; simp [dI] at h
  | succ m ih =>
    intro k c h
    simp only [dI, List.mem_cons] at h
    rcases h with rfl | h
    · trivial
    · exact ih _ _ h
theorem Tf (f : Nat -> Nat -> IV) (E : Nat) : ∀ (n k : Nat) (c : CV), c ∈ iD f E n k -> kg c := by
  intro n
  induction n with
  | zero => intro k c h; simp [iD] at h
  | succ n ih =>
    intro k c h
    rcases List.mem_append.1 h with h | h
    · exact WL _ _ _ _ h
    · exact ih _ _ h
theorem QB (f : Nat -> Nat -> IV) (E n : Nat) (i o : Nat) (hi : i < n) (ho : o < E) : (Fu ((iD f E n 0).getD (i * E + o) .any)).eqv (f i o) := by
  rw [List.getD, Cy _ _ _ _ _ _ hi ho, Nat.zero_add]
  exact IV.aG _
structure Fv where
  n : Nat
  f : Nat -> aF
structure Fv.Ok (X : Fv) : Prop where
  n : X.n <= 300
  f : ∀ i, i < X.n -> (X.f i).Ok
def zQ (X : Fv) (p : wB) : Fv := ⟨Dc X.n X.f p.k p.o, Xo X.n X.f p.k p.o⟩
def JM (X : Fv) (p : wB) : Int := CZ X.n X.f p.k p.o
def gD (O : Nat -> wB) (X : Fv) (l : List Nat) : Fv := l.foldl (fun Z i => zQ Z (O i)) X
def gu (O : Nat -> wB) : Fv -> List Nat -> Bool
  | _, [] => true
  | X, i :: l => decide (JM X (O i) = 0) && gu O (zQ X (O i)) l
theorem wG (O : Nat -> wB) (X : Fv) : gD O X [] = X := rfl
theorem Ti (O : Nat -> wB) (X : Fv) (l : List Nat) (i : Nat) : gD O X (l ++ [i]) = zQ (gD O X l) (O i) := by simp [gD]
theorem JL (O : Nat -> wB) : ∀ (X : Fv) (l : List Nat) (i : Nat), gu O X (l ++ [i]) = (gu O X l && decide (JM (gD O X l) (O i) = 0))
  | X, [], i => by show (decide _ && true) = (true && decide _); rw [Bool.and_true, Bool.true_and]; rfl
  | X, j :: l, i => by
    show (decide (JM X (O j) = 0) && gu O (zQ X (O j)) (l ++ [i])) = ((decide (JM X (O j) = 0) && gu O (zQ X (O j)) l) && decide (JM (gD O (zQ X (O j)) l) (O i) = 0))
    rw [JL O (zQ X (O j)) l i, Bool.and_assoc]
theorem Jb (O : Nat -> wB) : ∀ (X : Fv) (l m : List Nat), gu O X (l ++ m) = (gu O X l && gu O (gD O X l) m)
  | X, [], m => by simp [gu, gD]
  | X, j :: l, m => by
    show (decide (JM X (O j) = 0) && gu O (zQ X (O j)) (l ++ m)) = ((decide (JM X (O j) = 0) && gu O (zQ X (O j)) l) && gu O (gD O (zQ X (O j)) l) m)
    rw [Jb O (zQ X (O j)) l m, Bool.and_assoc]
theorem Rf {O : Nat -> wB} {X : Fv} {l : List Nat} {i : Nat} (h : gu O X l = true) (h2 : CZ (gD O X l).n (gD O X l).f (O i).k (O i).o = 0) : gu O X (l ++ [i]) = true := by rw [JL, h]; exact decide_eq_true h2
theorem Uw {n : Nat} {f : Nat -> aF} {k : Nat} {o : Nat -> bT} (h : CZ n f k o = 0) : Md n f k o = true /\ ∀ j, j < k -> (gJ (eu (LF f n) o j) (o j)).1 = 0 := by
  unfold CZ at h
  split at h
  · rename_i hv
    refine ⟨hv, fun j hj => ?_⟩
    split at h
    · rename_i hlt
      have hb : WQ n f k o < k := hlt
      exact absurd h (by
        have key : ∀ k, Km (LF f n) o k < k -> (gJ (eu (LF f n) o (Km (LF f n) o k)) (o (Km (LF f n) o k))).1 ≠ 0 := by
          intro k
          induction k with
          | zero => intro h; omega
          | succ k ih =>
            intro hk
            unfold Km at ih hk ⊢
            simp only [fQ] at hk ⊢
            split
            · rename_i g; exact ih g
            · rename_i g
              rw [if_neg g] at hk
              split
              · rename_i g2; exact of_decide_eq_true g2
              · rename_i g2; rw [if_neg g2] at hk; omega
        exact key k hb)
    · rename_i hge
      by_cases e : (gJ (eu (LF f n) o j) (o j)).1 = 0
      · exact e
      · exfalso
        have key : ∀ k, j < k -> Km (LF f n) o k < k := by
          intro k
          induction k with
          | zero => intro h; omega
          | succ k ih =>
            intro hk
            unfold Km at ih ⊢
            simp only [fQ]
            split
            · rename_i g; omega
            · rename_i g
              split
              · omega
              · rename_i g2
                rcases (by omega : j < k \/ j = k) with q | rfl
                · exact absurd (ih q) g
                · exact absurd (decide_eq_true e) g2
        exact hge (key k hj)
  · exact absurd h (by decide)
theorem abC {X : Fv} {p : wB} (h : JM X p = 0) : (zQ X p).Ok := by
  obtain ⟨hv, hd⟩ := Uw h
  have hv2 : gM X.n X.f = true /\ fO p.k p.o = true := by unfold Md at hv; simpa using hv
  have hg := jD (yw hv2.1) (o := p.o) (k := p.k) (of_decide_eq_true hv2.2).2 p.k (Nat.le_refl _)
  have hn := (Jl hv2.1 hv2.2 (i := p.k) (Int.le_refl _) hd).1
  refine ⟨?_, fun i hi => ?_⟩
  · show Dc X.n X.f p.k p.o <= 300
    rw [<- hn]; exact hg.n
  · have hi : i < Dc X.n X.f p.k p.o := hi
    rw [<- hn] at hi
    exact yc (hg.f _ (by show (eu (LF X.f X.n) p.o p.k).getD i bL ∈ _; rw [List.getD_eq_getElem?_getD, List.getElem?_eq_getElem hi]; simp))
theorem yG {O : Nat -> wB} : ∀ {X : Fv} {l : List Nat}, X.Ok -> gu O X l = true -> (gD O X l).Ok
  | X, [], h, _ => h
  | X, i :: l, h, hb => by
    have hb : (decide (JM X (O i) = 0) && gu O (zQ X (O i)) l) = true := hb
    rw [Bool.and_eq_true] at hb
    exact yG (l := l) (abC (of_decide_eq_true hb.1)) hb.2
def j3 (x : bF) : Fv := ⟨x.n, x.f⟩
theorem aeg {Y : xP} (h : Y.Ok) : (j3 Y.x).Ok := ⟨(of_decide_eq_true h.v).1, h.x.f⟩
def Ih (F : Nat -> Nat) (s : Nat) : Bool := decide (∀ i, i ∈ bl s -> F i &&& s = 0)
def dS (Y : xP) (s : Nat) : Bool := decide (iR Y.P s = s) && Ih Y.F s && gu Y.x.O (j3 Y.x) (bl s)
def Ht (Y : xP) (s : Nat) : Nat := if dS Y s = true then (gD Y.x.O (j3 Y.x) (bl s)).n else 0
def Xz (Y : xP) (s : Nat) : Nat -> aF := (gD Y.x.O (j3 Y.x) (bl s)).f
theorem Q6 {Y : xP} {s : Nat} (h : dS Y s = false) : Ht Y s = 0 /\ false = dS Y s := by unfold Ht; rw [h]; exact ⟨rfl, rfl⟩
theorem aeW {Y : xP} {s : Nat} (h : ((iR Y.P s : Nat) : Int) ≠ (s : Int)) : dS Y s = false := by
  unfold dS; rw [decide_eq_false (fun e => h (by rw [e]))]; rfl
theorem agw {Y : xP} {s i : Nat} (hi : i ∈ bl s) (h : ((Y.F i &&& s : Nat) : Int) ≠ 0) : dS Y s = false := by
  have e : Ih Y.F s = false := decide_eq_false fun g => h (by rw [g i hi]; rfl)
  unfold dS; rw [e]; simp
theorem aiy {Y : xP} {s i : Nat} {l r : List Nat} (hl : l ++ i :: r = bl s) (h : JM (gD Y.x.O (j3 Y.x) l) (Y.x.O i) ≠ 0) : dS Y s = false := by
  have e : gu Y.x.O (j3 Y.x) (bl s) = false := by
    rw [<- hl, Jb]
    show (_ && (decide _ && _)) = false
    rw [decide_eq_false h]; simp
  unfold dS; rw [e]; simp
theorem aiD {Y : xP} {s : Nat} (h1 : ((iR Y.P s : Nat) : Int) = (s : Int)) (h2 : ∀ i, i ∈ bl s -> Y.F i &&& s = 0) (h3 : gu Y.x.O (j3 Y.x) (bl s) = true) : dS Y s = true := by
  unfold dS; rw [decide_eq_true (by omega), h3, show Ih Y.F s = true from decide_eq_true h2]; rfl
theorem SB {p : Nat -> Prop} {l : List Nat} {i : Nat} (h : ∀ j, j ∈ l -> p j) (hi : p i) : ∀ j, j ∈ l ++ [i] -> p j := fun j hj => by
  rcases List.mem_append.1 hj with g | g
  · exact h j g
  · rw [List.mem_singleton.1 g]; exact hi
theorem Tz {s r : Nat} {l : List Nat} (h : O4 s (l, r)) (h0 : 0 < r) : l ++ cz r :: bl (r &&& (r - 1)) = bl s := by
  rw [<- h.1]; simp only
  rw [(Jv r h.2 h0).1]
theorem Xw {s r : Nat} {l : List Nat} (h : O4 s (l, r)) (h0 : 0 < r) : cz r ∈ bl s := by rw [<- Tz h h0]; simp
theorem acM {a s : Nat} (h : a < 1024) (hs : s < 1024) : bits .and .u64 (a : Int) (s : Int) = ((a &&& s : Nat) : Int) := IQ (by omega) (by omega)
set_option maxRecDepth 100000 in
set_option maxHeartbeats 4000000 in
theorem Fw (Y : xP) (hY : Y.Ok) (s : Nat) (hin : iV Y.x.m s) : au Tryz.prog 48 [.one (.ptr 6 (EK Y)), .one (.g (.int .u64 ((s : Int))))] (.tup [.one (.lst 9 (Ht Y s) (bq (Xz Y s))), .one (.g (.bool (dS Y s)))]) := by
  have hm := hY.m
  have hs := dP hm hin
  have hn3 := (of_decide_eq_true hY.v).1
  have hmo := hY.mo
  have mk0 : True := trivial
  have mk1 : True := trivial
  have mk2 : True := trivial
  have hpr : True := trivial
  have hfa : True := trivial
  refine ah Tryz.func48 rfl (by rw [Tryz.ntmps48]; simp) ?_
  simp only [Tryz.ntmps48, zM, PT.tv, ak, Nat.zero_add, Nat.reduceAdd]
  repeat' (first
 | ((with_reducible refine Need.mk ?_); exact Tf _ _ _ _)
 | ((with_reducible show AW _ _ _ _); first
 | (with_reducible first | refine aS (fun K hK => ?_) | refine aI ?_ | refine aX ?_ | refine aT ?_ | refine aC ?_ | refine aB ?_)
 | ((refine fJ (k := 110) rfl Tryz.func110 rfl BM (by rw [Tryz.ntmps110]; simp) ?_ ?_ (fun l hlne A B hA hB => ?_)); (focus (simp (maxSteps := 2000000) only [go_sem, reduceIte, reduceCtorEq, xA, xL, xD, xE, xM, xS, xB, Tryz.f48, Tryz.f110, Tryz.f81, lK, jI, lW, jQ, lG, kK, wY, bJ, bI, dD, hpr, hfa, wG]; try exact True.intro)); (focus (simp (maxSteps := 2000000) only [go_sem, reduceIte, reduceCtorEq, xA, xL, xD, xE, xM, xS, xB, Tryz.f48, Tryz.f110, Tryz.f81, lK, jI, lW, jQ, lG, kK, wY, bJ, bI, dD, hpr, hfa, wG]; try exact True.intro)); simp only [Tryz.ntmps110, List.map_cons, List.map_nil, LV.tv, ak, yV, Nat.zero_add, Nat.reduceAdd]; clear hlne)
 | (with_reducible refine Bw (by assumption) ?_)
 | (first
 | (with_reducible first | refine aP (ops := #[⟨some 2, _, _, _, _, _⟩, _, _, _]) 0 [0,1,19,37] ?_ | refine aP (ops := #[⟨some 4, _, _, _, _, _⟩, _]) 0 [0,1] ?_ | refine aP (ops := #[⟨some 1, _, _, _, _, _⟩, _]) 0 [0] ?_ | refine aP (ops := #[⟨some 5, _, _, _, _, _⟩, _]) 1 [0,3] ?_ | refine aP (ops := #[⟨some 3, _, _, _, _, _⟩, _]) 1 [1] ?_)
 | ((with_reducible refine aR (c := Code.region 1 _ true) [2,3,4,5,19,37] ?_); (with_reducible refine aD ?_ ?_ ?_ ?_); (focus kernel_rfl); (focus kernel_rfl); (focus kernel_rfl))
 | (with_reducible first | refine aP (ops := #[⟨none, _, _, _, _, _⟩, _]) 2 [4,5] ?_ | refine aP (ops := #[⟨some 7, _, _, _, _, _⟩, _, _, _, _]) 2 [0,3] ?_ | refine aP (ops := #[⟨some 17, _, _, _, _, _⟩, _]) 3 [2,3,4,5,19,37] ?_ | refine aP (ops := #[⟨some 11, _, _, _, _, _⟩, _, _, _, _]) 3 [0,3] ?_ | refine aP 4 [2,3,4,5,19,37] ?_)
 | ((with_reducible refine aR (c := Code.region 5 _ true) [2,3,4,5,6,19,37] ?_); (with_reducible refine aD ?_ ?_ ?_ ?_); (focus kernel_rfl); (focus kernel_rfl); (focus kernel_rfl))
 | (with_reducible first | refine aP 6 [4,5] ?_ | refine aP 7 [2,3,4,5,37] ?_ | refine Dr (c := Code.region 8 _ false) [5] ?_ (aP 8 [2,3,4,5,7,37] ?_) | refine aP 9 [2,4,5,7,37] ?_)
 | ((with_reducible refine aR (c := Code.region 10 _ true) [2,4,5,7,8,37] ?_); (with_reducible refine aD ?_ ?_ ?_ ?_); (focus kernel_rfl); (focus kernel_rfl); (focus kernel_rfl))
 | (with_reducible first | refine aP 11 [2,4,5,7,9,11,37] ?_ | refine aP 12 [4,5] ?_ | refine aP 13 [2,4,5,7,9,37] ?_ | refine aP 14 [4,5,7] ?_))
 | ((with_reducible show AW _ (Code.loop _) _ _); first
 | ((have hO := hfoe; with_reducible refine aL (c := (Code.seq (Code.seq (Code.region 1 _ _) _) _)) (ι := List Nat × Nat) [0] (fun ⟨l2, r2⟩ => [(3, .t (.one (.iv (.g (.int .u64 (r2 : Int))))))]) (fun ⟨l2, r2⟩ => [(6, [.iv (.lst 9 (gD Y.x.O (j3 Y.x) l2).n (bq (gD Y.x.O (j3 Y.x) l2).f))])]) (fun ⟨l2, r2⟩ => O4 s (l2, r2) /\ gu Y.x.O (j3 Y.x) l2 = true) (fun ⟨l2, r2⟩ => r2) ([], s) ?lg1b ?l11b ?l21b ?li1b ?lr1b); (case' lg1b => rintro ⟨l2, r2⟩ _); (case' li1b => try (exact ⟨Nv hs, rfl⟩)); (case' lr1b => rintro ⟨l2, r2⟩ hz KR hR1b; simp only [bf, bN, hset, lk, if_true, if_false, xE, reduceIte, zN, lK, jI, lW, jQ, lG, kK, wY, bJ, bI, dD, hpr, hfa, wG]))
 | ((with_reducible refine aL (c := (Code.seq (Code.seq (Code.region 1 _ _) _) _)) (ι := List Nat × Nat) [0] (fun ⟨l, r⟩ => [(3, .t (.one (.iv (.g (.int .u64 (r : Int))))))]) (fun ⟨l, r⟩ => []) (fun ⟨l, r⟩ => O4 s (l, r) /\ ∀ i, i ∈ l -> Y.F i &&& s = 0) (fun ⟨l, r⟩ => r) ([], s) ?lg1 ?l11 ?l21 ?li1 ?lr1); (case' lg1 => rintro ⟨l, r⟩ _); (case' li1 => try (exact ⟨Nv hs, fun _ h => absurd h List.not_mem_nil⟩)); (case' lr1 => rintro ⟨l, r⟩ hz KR hR1; simp only [bf, bN, hset, lk, if_true, if_false, xE, reduceIte, zN, lK, jI, lW, jQ, lG, kK, wY, bJ, bI, dD, hpr, hfa, wG]))))
 | ((first | (with_reducible refine And.intro ?_ ?_) | (with_reducible refine Need.mk ?_)); focus (first | exact True.intro | omega))
 | (with_reducible refine aA ?_)
 | ((with_reducible show aY _ _ _ _ _ _); first
 | ((with_reducible refine aH ?_ ?_) <;> (intro hc; (try simp only [zB, zC, reduceCtorEq] at hc); ((try (clear mk0 hpr hfa; have h0 : 0 < r := (by omega); have hz2 := MG hz.1 h0; have hr := hz.1.2; have hcz := D9 hin hz.1 h0; have hpr := yI h0 hr; have hfa := acM (hY.F _ hcz) hs)); (try (clear mk1; have e0 : r = 0 := (by omega); subst e0; have hl := Mw hz.1; subst hl; have hfoe := hz.2; clear hz)); (try (clear mk2 hpr; have h0 : 0 < r2 := (by omega); have hz2 := MG hz.1 h0; have hr := hz.1.2; have hcz := D9 hin hz.1 h0; have hpr := yI h0 hr; have hxo := yG (aeg hY) hz.2; have hxn := hxo.n))); (try (exfalso; contradiction)))))
 | ((with_reducible refine And.intro ?_ ?_); focus ((with_reducible show fB _ _ _ = true); kernel_rfl))
 | ((with_reducible show aN _ _ _ _ _ _ _ _ _ _); first
 | (refine aj (k := 111) qm (V8 r hz.1.2) ?_ ?_)
 | (refine aj (k := 111) qm (V8 r2 hz.1.2) ?_ ?_)
 | (refine CJ (k := 82) Oo (Qy (Sn Y.x.n (bq Y.x.f) (by omega)) (i := 5) rfl) ?_ ?_)
 | ((refine bY (k := 81) Tryz.func81 rfl yt (by rw [Tryz.ntmps81]; simp) ?_ ?_ (fun K hK => ?_)); (focus (exact True.intro)); (focus ((simp [iM]; done))); simp only [Tryz.ntmps81, List.map_cons, List.map_nil, List.nil_append, List.cons_append, List.append_nil, LV.tv, ak, Nat.zero_add, Nat.reduceAdd]))
 | ((with_reducible show dA _ _ _ _ _ _ _ _ _ _ _ _ _); first
 | (refine aV (k := 49) EN (aau Y hY s hin) ?_ ?_)
 | (refine aV (k := 34) LZ (Yc (gD Y.x.O (j3 Y.x) l2).n (gD Y.x.O (j3 Y.x) l2).f (Y.x.O (cz r2)).k (Y.x.O (cz r2)).o (by omega) hxo.f (hY.x.k _ (by omega)) (hY.x.o _ (by omega))) ?_ ?_))
 | ((with_reducible refine hR1b _ (l2 ++ [cz r2], r2 &&& (r2 - 1)) ?_); (try clear hR1b KR))
 | ((with_reducible refine hR1 _ (l ++ [cz r], r &&& (r - 1)) ?_); (try clear hR1 KR))
 | ((with_reducible refine Told.mk ?_); simp only [go_sem, reduceIte, reduceCtorEq, xA, xL, xD, xE, xM, xS, xB, lK, jI, lW, jQ, lG, kK, wY, bJ, bI, dD, hpr, hfa, wG] <;> (first | (((try simp (disch := omega) only [aJ, Int.natCast_add, Int.cast_ofNat_Int, and_true, true_and, and_self]); (repeat' (first | omega | (with_reducible refine And.intro ?_ ?_) | ((exact hz2.1)) | ((exact Rf hz.2 (by assumption))) | ((exact Or.inl (by rw [Ti]; rfl))) | ((rw [if_pos (by rw [nN]; omega)]; exact Or.inr ⟨rfl, rfl, fun i o hi ho => QB _ _ _ _ _ hi ho⟩)))); done)) | (((try simp (disch := omega) only [aJ, Int.natCast_add, Int.cast_ofNat_Int, and_true, true_and, and_self]); (repeat' (first | omega | (with_reducible refine And.intro ?_ ?_) | ((exact hz2.1)) | ((exact SB hz.2 (by omega))))); done))))
 | ((fail_if_success (with_reducible show AW _ _ _ _)); simp (maxSteps := 2000000) only [go_sem, reduceIte, reduceCtorEq, xA, xL, xD, xE, xM, xS, xB, Tryz.f48, Tryz.f110, Tryz.f81, lK, jI, lW, jQ, lG, kK, wY, bJ, bI, dD, hpr, hfa, wG])
 | ((with_reducible show aN _ _ _ _ _ _ (.yld _) _ _ _); (refine nX (by simp only [Fj, if_true]; exact rfl) ?_ (by simp) ?_ ?_ (fun K hK => ?_)); (focus (exact True.intro)); (focus (simp [oI])); (focus ((simp [iM]; done))); simp only [jw, gf, if_true, Nat.reduceAdd])
 | ((with_reducible refine hK _ ?_); clear hK K)
 | (with_reducible apply_assumption -exfalso only [*]))
  all_goals first
    | (have e := Q6 (Y := Y) (s := s) (aeW (by assumption)); rw [e.1]; exact ⟨rfl, e.2⟩)
    | exact Q6 (agw (Xw hz.1 h0) (by assumption))
    | exact Q6 (aiy (Tz hz.1 h0) (by assumption))
    | (have e0 : r2 = 0 := (by omega); subst e0; have hl := Mw hz.1; subst hl; have e := aiD (Y := Y) (by assumption) hfoe hz.2; unfold Ht Xz; rw [e]; exact ⟨⟨rfl, fun i o _ _ => IV.aG _⟩, rfl⟩)
    | skip
end Go.Proofs.YtmnejmpjmniiiaaGreatDoor
namespace Go.Sea
open Go.RowKit
def LV.mv (a b : Nat) : LV -> LV
  | .ptr k o => .ptr (if k = a then b else k) o
  | .mp k => .mp (if k = a then b else k)
  | c => c
def CV.mv (a b : Nat) : CV -> CV
  | .slc k off n E => .slc (if k = a then b else k) off n E
  | .ptr k o => .ptr (if k = a then b else k) o
  | .fn f x y => .fn f (x.map (LV.mv a b)) (y.map (LV.mv a b))
  | .mp k => .mp (if k = a then b else k)
  | .it k => .it (if k = a then b else k)
  | .ml l => .ml (l.map fun x => (x.1, x.2.1, x.2.2.1.map (LV.mv a b), x.2.2.2.map (LV.mv a b)))
  | .mt j c p q => .mt (if j = a then b else j) c p q
  | c => c
def TV.mv (a b : Nat) : TV -> TV
  | .one c => .one (c.mv a b)
  | .agg cs => .agg (cs.map (CV.mv a b))
def AV.mv (a b : Nat) : AV -> AV
  | .t x => .t (x.mv a b)
  | .tup xs => .tup (xs.map (TV.mv a b))
  | .mb c x => .mb c (x.mv a b)
  | .any => .any
def Rl (a b : Nat) (e : List (Nat × AV)) : List (Nat × AV) := e.map fun p => (p.1, p.2.mv a b)
def mvG (a b : Nat) (g : List (Nat × List (Nat × AV))) : List (Nat × List (Nat × AV)) := g.map fun p => (p.1, Rl a b p.2)
def Ja (a b : Nat) (o : Option (List CV)) : Option (List CV) := o.map (List.map (CV.mv a b))
def mvH (a b : Nat) (h : List (Option (List CV))) : List (Option (List CV)) := hdel (h.map (Ja a b)) a ++ [Ja a b (hget h a)]
def AS.mv (a b : Nat) (s : AS) : AS := ⟨Rl a b s.env, mvH a b s.heap, s.N, mvG a b s.gh, s.lp⟩
theorem U3 (a b t : Nat) : ∀ env : List (Nat × AV), lk (Rl a b env) t = (lk env t).mv a b
  | [] => rfl
  | (k, v) :: r => by
    simp only [Rl, List.map_cons, lk]
    split
    · rfl
    · exact U3 a b t r
theorem aad (a b f : Nat) : ∀ g : List (Nat × List (Nat × AV)), gf (mvG a b g) f = Rl a b (gf g f)
  | [] => rfl
  | (k, v) :: r => by
    simp only [mvG, List.map_cons, gf]
    split
    · rfl
    · exact aad a b f r
theorem Gh : ∀ (h : List (Option (List CV))) (i : Nat), (hdel h i).length = h.length
  | [], i => by simp [hdel]
  | x :: h, 0 => by simp [hdel]
  | x :: h, i + 1 => by simp [hdel, Gh h i]
theorem NM (a : Nat) (h : List (Option (List CV))) (k : Nat) : hget (mvH a h.length h) k = if k = h.length then Ja a h.length (hget h a) else if k = a then none else Ja a h.length (hget h k) := by
  unfold mvH
  have hl : (hdel (h.map (Ja a h.length)) a).length = h.length := by rw [Gh, List.length_map]
  by_cases hk : k = h.length
  · rw [if_pos hk]
    subst hk
    unfold hget
    rw [List.getElem?_append_right (by omega), hl]
    simp
  · rw [if_neg hk]
    have e1 : hget (hdel (h.map (Ja a h.length)) a ++ [Ja a h.length (hget h a)]) k = hget (hdel (h.map (Ja a h.length)) a) k := by
      unfold hget
      by_cases hlt : k < h.length
      · rw [List.getElem?_append_left (by omega)]
      · rw [List.getElem?_eq_none (by simp [hl]; omega), List.getElem?_eq_none (by omega)]
    rw [e1, qW]
    by_cases ha : k = a
    · rw [if_pos ha, if_pos ha]
    · rw [if_neg ha, if_neg ha]
      unfold hget Ja
      rw [List.getElem?_map]
      cases h[k]? <;> rfl
section
variable {w0 : World} {Z0 : Fr} {J J' : Nat -> Option Nat} {Z : Nat -> Prop} {s : AS} {ac : Act} {w : World} {a b : Nat}
theorem jR.mv (hJ : ∀ k x, J k = some x -> J' (if k = a then b else k) = some x) {v : Value} {l : LV} (h : jR w J Z v l) : jR w J' Z v (l.mv a b) := by
  cases l with
  | iv c => exact h
  | ptr k o => obtain ⟨x, e, hx, ho⟩ := h; exact ⟨x, e, hJ k x hx, ho⟩
  | mp k => obtain ⟨x, e, hx⟩ := h; exact ⟨x, e, hJ k x hx⟩
theorem bQ.mv (hJ : ∀ k x, J k = some x -> J' (if k = a then b else k) = some x) {v : Value} {c : CV} (h : bQ w J Z v c) : bQ w J' Z v (c.mv a b) := by
  cases c with
  | iv c => exact h
  | ip m c => exact h
  | slc k off n E =>
    rcases h with h | ⟨x, cap, c, e, hv, hx, r⟩
    · exact Or.inl h
    · exact Or.inr ⟨x, cap, c, e, hv, hJ k x hx, r⟩
  | ptr k o => obtain ⟨x, e, hx, ho⟩ := h; exact ⟨x, e, hJ k x hx, ho⟩
  | mp k => obtain ⟨x, e, hx⟩ := h; exact ⟨x, e, hJ k x hx⟩
  | it k => obtain ⟨x, e, hx⟩ := h; exact ⟨x, e, hJ k x hx⟩
  | mi => exact h.elim
  | m2 => exact h.elim
  | ml => exact h.elim
  | mt => exact h.elim
  | fn f x y =>
    obtain ⟨A, B, e, h1, h2⟩ := h
    exact ⟨A, B, e, aU.cO.2 (h1.mono fun _ _ => jR.mv hJ), aU.cO.2 (h2.mono fun _ _ => jR.mv hJ)⟩
  | any => exact h
theorem iO.mv (hJ : ∀ k x, J k = some x -> J' (if k = a then b else k) = some x) {c : Nat} {cs : List CV} (h : iO w J Z c cs) : iO w J' Z c (cs.map (CV.mv a b)) := by
  unfold iO at h
  split at h
  · obtain ⟨rfl, h⟩ := h
    exact ⟨rfl, h⟩
  · obtain ⟨rfl, h⟩ := h
    exact ⟨rfl, h⟩
  · obtain ⟨rfl, es, clock, h1, h2, h3⟩ := h
    exact ⟨rfl, es, clock, h1, h2, (aU.cO (f := fun x : Int × Fn × List LV × List LV => (x.1, x.2.1, x.2.2.1.map (LV.mv a b), x.2.2.2.map (LV.mv a b)))).2 (h3.mono fun _ _ hr => ⟨hr.1, bQ.mv hJ hr.2⟩)⟩
  · obtain ⟨rfl, m, seen, es, clock, h1, h2, h3⟩ := h
    exact ⟨rfl, m, seen, es, clock, h1, hJ _ _ h2, h3⟩
  · rcases h with ⟨c, e, h1, h2⟩ | ⟨⟨o, h1, h2⟩, h3⟩
    · refine iO.of h1 ?_
      rw [List.length_map]
      exact aU.cO.2 (h2.mono fun _ _ => bQ.mv hJ)
    · refine iO.dead h1 h2 fun c hc => ?_
      obtain ⟨c', hc', rfl⟩ := List.mem_map.1 hc
      rw [h3 c' hc']; rfl
theorem bS.mv (hJ : ∀ k x, J k = some x -> J' (if k = a then b else k) = some x) {v : Value} {c : TV} (h : bS w J Z v c) : bS w J' Z v (c.mv a b) := by
  cases c with
  | one c => exact bQ.mv hJ h
  | agg cs => obtain ⟨A, e, h⟩ := h; exact ⟨A, e, aU.cO.2 (h.mono fun _ _ => bQ.mv hJ)⟩
theorem bD.mv (hJ : ∀ k x, J k = some x -> J' (if k = a then b else k) = some x) {v : Value} {c : AV} (h : bD w J Z v c) : bD w J' Z v (c.mv a b) := by
  cases c with
  | t x => exact bS.mv hJ h
  | tup xs => obtain ⟨A, e, h⟩ := h; exact ⟨A, e, aU.cO.2 (h.mono fun _ _ => bS.mv hJ)⟩
  | mb c x => exact ⟨fun hc => bS.mv hJ (h.1 hc), h.2⟩
  | any => trivial
theorem Rel.mv (R : Rel w0 Z0 J Z s ac w) (ha : (hget s.heap a).isSome = true) : Rel w0 Z0 (fun k => if k = s.heap.length then J a else if k = a then none else J k) Z (s.mv a s.heap.length) ac w := by
  have hla : a < s.heap.length := by
    refine Nat.lt_of_not_le fun h => ?_
    rw [mF _ _ h] at ha
    cases ha
  have hJ : ∀ k x, J k = some x -> (fun k => if k = s.heap.length then J a else if k = a then none else J k) (if k = a then s.heap.length else k) = some x := fun k x hx => by
    by_cases h : k = a
    · subst h; simp [hx]
    · simp only [if_neg h]
      rw [if_neg]
      · exact hx
      · rintro rfl
        rw [R.hole _ (mF _ _ (Nat.le_refl _))] at hx
        cases hx
  have sub : ∀ k x, (if k = s.heap.length then J a else if k = a then none else J k) = some x -> ∃ q, J q = some x /\ ((k = s.heap.length /\ q = a) \/ (k ≠ s.heap.length /\ k ≠ a /\ q = k)) := fun k x h => by
    split at h
    · rename_i e; exact ⟨a, h, Or.inl ⟨e, rfl⟩⟩
    · rename_i e1
      split at h
      · cases h
      · rename_i e2; exact ⟨k, h, Or.inr ⟨e1, e2, rfl⟩⟩
  refine ⟨R.nodef, R.size, R.below, R.zfrom, R.zlt, fun k x h => ?_, fun k j x hk hj => ?_, fun k h => ?_, fun k cs h hne => ?_, fun t => ?_, fun f t => ?_, R.loops, R.lnd, R.ro, R.tab⟩
  · obtain ⟨q, hq, _⟩ := sub k x h
    exact R.jlt q x hq
  · obtain ⟨q1, h1, e1⟩ := sub k x hk
    obtain ⟨q2, h2, e2⟩ := sub j x hj
    have := R.inj q1 q2 x h1 h2
    omega
  · simp only [AS.mv] at h
    rw [NM] at h
    by_cases h1 : k = s.heap.length
    · rw [if_pos h1] at h
      cases hc : hget s.heap a with
      | none => rw [hc] at ha; cases ha
      | some cs => rw [hc] at h; simp [Ja] at h
    · rw [if_neg h1] at h ⊢
      by_cases h2 : k = a
      · rw [if_pos h2]
      · rw [if_neg h2] at h ⊢
        refine R.hole k ?_
        cases hc : hget s.heap k with
        | none => rfl
        | some cs => rw [hc] at h; simp [Ja] at h
  · simp only [AS.mv] at h
    rw [NM] at h
    have one : ∀ q, Ja a s.heap.length (hget s.heap q) = some cs -> ∃ b, J q = some b /\ iO w (fun k => if k = s.heap.length then J a else if k = a then none else J k) Z b cs := fun q hq => by
      cases hc : hget s.heap q with
      | none => rw [hc] at hq; simp [Ja] at hq
      | some c0 =>
        rw [hc] at hq
        simp only [Ja, Option.map_some, Option.some.injEq] at hq
        subst hq
        obtain ⟨b, g1, g2⟩ := R.blk q c0 hc (by rintro rfl; exact hne rfl)
        exact ⟨b, g1, g2.mv hJ⟩
    by_cases h1 : k = s.heap.length
    · rw [if_pos h1] at h
      obtain ⟨b, g1, g2⟩ := one a h
      exact ⟨b, by rw [if_pos h1]; exact g1, g2⟩
    · rw [if_neg h1] at h
      by_cases h2 : k = a
      · rw [if_pos h2] at h; cases h
      · rw [if_neg h2] at h
        obtain ⟨b, g1, g2⟩ := one k h
        exact ⟨b, by rw [if_neg h1, if_neg h2]; exact g1, g2⟩
  · show bD _ _ _ _ (lk (Rl a s.heap.length s.env) t)
    rw [U3]; exact bD.mv hJ (R.slots t)
  · show bD _ _ _ _ (lk (gf (mvG a s.heap.length s.gh) f) t)
    rw [aad, U3]; exact bD.mv hJ (R.ghost f t)
end
def wH (F : Nat -> Nat -> IV) (n : Nat) : List (Option (List CV)) := (List.range n).map fun k => some (EI (F k) 64)
section
variable (F G : Nat -> Nat -> IV) (n k a b : Nat)
theorem Bq : (wH F n).length = n := by simp [wH]
theorem PY : wH F 0 = [] := rfl
theorem Eu {F : Nat -> Nat -> IV} {n k : Nat} (h : k < n) : (wH F n)[k]? = some (some (EI (F k) 64)) := by simp [wH, h]
theorem OO : wH F n ++ [some (EI (F n) 64)] = wH F (n + 1) := by simp [wH, List.range_succ]
theorem HV {l : List (Option (List CV))} (hl : l.length = n) (h : ∀ j, j < n -> l[j]? = some (some (EI (F j) 64))) : l = wH F n := by
  refine List.ext_getElem? fun j => ?_
  by_cases hj : j < n
  · rw [h j hj, Eu hj]
  · rw [List.getElem?_eq_none (by omega), List.getElem?_eq_none (by rw [Bq]; omega)]
theorem Kn : List.map (fun o => Option.map (gN a) o) (wH F n) = wH F n := by
  refine HV _ _ (by simp [Bq]) fun j hj => ?_
  rw [List.getElem?_map, Eu hj]
  simp [gN, QC]
theorem Y2 (f : Nat -> IV) : List.map (CV.mv a b) (EI f n) = EI f n := by
  refine (List.map_congr_left fun c hc => ?_).trans (List.map_id _)
  have := Ml f n c hc
  cases c <;> first | rfl | exact this.elim
theorem Wn : List.map (Ja a b) (wH F n) = wH F n := by
  refine HV _ _ (by simp [Bq]) fun j hj => ?_
  rw [List.getElem?_map, Eu hj]
  simp [Ja, Y2]
end
def Qa (H : List (Option (List CV))) (g : List (Nat × List (Nat × AV))) : Prop := ∀ p, p ∈ g -> ∀ q, q ∈ p.2 -> q.2.ok (okB H)
theorem LV.iH {p q : Nat -> Prop} (h : ∀ i, p i -> q i) {c : LV} (hc : c.ok p) : c.ok q := by cases c <;> first | trivial | exact h _ hc
theorem CV.iH {p q : Nat -> Prop} (h : ∀ i, p i -> q i) {c : CV} (hc : c.ok p) : c.ok q := by
  cases c <;> first | trivial | exact h _ hc | exact ⟨fun l hl => LV.iH h (hc.1 l hl), fun l hl => LV.iH h (hc.2 l hl)⟩ | exact fun x hx => ⟨fun l hl => LV.iH h ((hc x hx).1 l hl), fun l hl => LV.iH h ((hc x hx).2 l hl)⟩
theorem TV.iH {p q : Nat -> Prop} (h : ∀ i, p i -> q i) {c : TV} (hc : c.ok p) : c.ok q := by
  cases c with
  | one c => exact CV.iH h hc
  | agg cs => exact fun c hm => CV.iH h (hc c hm)
theorem AV.iH {p q : Nat -> Prop} (h : ∀ i, p i -> q i) {c : AV} (hc : c.ok p) : c.ok q := by
  cases c with
  | t x => exact TV.iH h hc
  | tup xs => exact fun c hm => TV.iH h (hc c hm)
  | mb b x => exact TV.iH h hc
  | any => trivial
theorem Qa.mono {H H' : List (Option (List CV))} {g : List (Nat × List (Nat × AV))} (h : Qa H g) (hs : ∀ i, okB H i -> okB H' i) : Qa H' g := fun p hp q hq => AV.iH hs (h p hp q hq)
theorem CV.qB {p : Nat -> Prop} {i : Nat} (hi : ¬ p i) {c : CV} (hc : c.ok p) : c.has i = false := by
  cases c with
  | slc j off n E => exact beq_eq_false_iff_ne.2 fun e => hi (e ▸ hc)
  | ptr j o => exact beq_eq_false_iff_ne.2 fun e => hi (e ▸ hc)
  | mp j => exact beq_eq_false_iff_ne.2 fun e => hi (e ▸ hc)
  | it j => exact beq_eq_false_iff_ne.2 fun e => hi (e ▸ hc)
  | mt j c p q => exact beq_eq_false_iff_ne.2 fun e => hi (e ▸ hc)
  | ml l =>
    refine List.any_eq_false.2 fun x hx => ?_
    rw [Bool.not_eq_true]
    refine Bool.or_eq_false_iff.2 ⟨List.any_eq_false.2 fun l hl => ?_, List.any_eq_false.2 fun l hl => ?_⟩
    · have := (hc x hx).1 l hl
      cases l with
      | iv c => simp [LV.has]
      | ptr j o => simp only [LV.has, beq_iff_eq]; exact fun e => hi (e ▸ this)
      | mp j => simp only [LV.has, beq_iff_eq]; exact fun e => hi (e ▸ this)
    · have := (hc x hx).2 l hl
      cases l with
      | iv c => simp [LV.has]
      | ptr j o => simp only [LV.has, beq_iff_eq]; exact fun e => hi (e ▸ this)
      | mp j => simp only [LV.has, beq_iff_eq]; exact fun e => hi (e ▸ this)
  | fn f a b =>
    refine Bool.or_eq_false_iff.2 ⟨List.any_eq_false.2 fun l hl => ?_, List.any_eq_false.2 fun l hl => ?_⟩
    · have := hc.1 l hl
      cases l with
      | iv c => simp [LV.has]
      | ptr j o => simp only [LV.has, beq_iff_eq]; exact fun e => hi (e ▸ this)
      | mp j => simp only [LV.has, beq_iff_eq]; exact fun e => hi (e ▸ this)
    · have := hc.2 l hl
      cases l with
      | iv c => simp [LV.has]
      | ptr j o => simp only [LV.has, beq_iff_eq]; exact fun e => hi (e ▸ this)
      | mp j => simp only [LV.has, beq_iff_eq]; exact fun e => hi (e ▸ this)
  | _ => rfl
theorem TV.qB {p : Nat -> Prop} {i : Nat} (hi : ¬ p i) {c : TV} (hc : c.ok p) : c.has i = false := by
  cases c with
  | one c => exact CV.qB hi hc
  | agg cs => exact List.any_eq_false.2 fun c hm => by simp [CV.qB hi (hc c hm)]
theorem AV.qB {p : Nat -> Prop} {i : Nat} (hi : ¬ p i) {c : AV} (hc : c.ok p) : c.has i = false := by
  cases c with
  | t x => exact TV.qB hi hc
  | tup xs => exact List.any_eq_false.2 fun c hm => by simp [TV.qB hi (hc c hm)]
  | mb b x => exact TV.qB hi hc
  | any => rfl
theorem LV.mW {p : Nat -> Prop} {i b : Nat} (hi : ¬ p i) {c : LV} (hc : c.ok p) : c.mv i b = c := by
  cases c with
  | iv c => rfl
  | ptr k o => simp only [LV.mv]; rw [if_neg]; rintro rfl; exact hi hc
  | mp k => simp only [LV.mv]; rw [if_neg]; rintro rfl; exact hi hc
theorem CV.mW {p : Nat -> Prop} {i b : Nat} (hi : ¬ p i) {c : CV} (hc : c.ok p) : c.mv i b = c := by
  cases c with
  | slc k off n E => simp only [CV.mv]; rw [if_neg]; rintro rfl; exact hi hc
  | ptr k o => simp only [CV.mv]; rw [if_neg]; rintro rfl; exact hi hc
  | mp k => simp only [CV.mv]; rw [if_neg]; rintro rfl; exact hi hc
  | it k => simp only [CV.mv]; rw [if_neg]; rintro rfl; exact hi hc
  | mt k c p q => simp only [CV.mv]; rw [if_neg]; rintro rfl; exact hi hc
  | ml l =>
    simp only [CV.mv]
    congr 1
    refine (List.map_congr_left fun x hx => ?_).trans (List.map_id _)
    rw [(List.map_congr_left fun l hl => LV.mW hi ((hc x hx).1 l hl)).trans (List.map_id _), (List.map_congr_left fun l hl => LV.mW hi ((hc x hx).2 l hl)).trans (List.map_id _)]
    rfl
  | fn f x y =>
    simp only [CV.mv]
    rw [(List.map_congr_left fun l hl => LV.mW hi (hc.1 l hl)).trans (List.map_id _), (List.map_congr_left fun l hl => LV.mW hi (hc.2 l hl)).trans (List.map_id _)]
  | _ => rfl
theorem TV.mW {p : Nat -> Prop} {i b : Nat} (hi : ¬ p i) {c : TV} (hc : c.ok p) : c.mv i b = c := by
  cases c with
  | one c => simp only [TV.mv]; rw [CV.mW hi hc]
  | agg cs => simp only [TV.mv]; rw [(List.map_congr_left fun l hl => CV.mW hi (hc l hl)).trans (List.map_id _)]
theorem AV.mW {p : Nat -> Prop} {i b : Nat} (hi : ¬ p i) {c : AV} (hc : c.ok p) : c.mv i b = c := by
  cases c with
  | t x => simp only [AV.mv]; rw [TV.mW hi hc]
  | tup xs => simp only [AV.mv]; rw [(List.map_congr_left fun l hl => TV.mW hi (hc l hl)).trans (List.map_id _)]
  | mb b x => simp only [AV.mv]; rw [TV.mW hi hc]
  | any => rfl
theorem Qa.bW {H : List (Option (List CV))} {g : List (Nat × List (Nat × AV))} (h : Qa H g) {i : Nat} (hi : hget H i = none) : tq i g = g := by
  refine (List.map_congr_left fun p hp => ?_).trans (List.map_id _)
  have : qC i p.2 = p.2 := (List.map_congr_left fun q hq => by
    have hn : ¬ okB H i := by unfold okB; rw [hi]; simp
    simp only [AV.bW, AV.qB hn (h p hp q hq), cond_false]
    rfl).trans (List.map_id _)
  rw [this]; rfl
theorem Qa.mv {H : List (Option (List CV))} {g : List (Nat × List (Nat × AV))} (h : Qa H g) {i : Nat} (hi : hget H i = none) (b : Nat) : mvG i b g = g := by
  refine (List.map_congr_left fun p hp => ?_).trans (List.map_id _)
  have : Rl i b p.2 = p.2 := (List.map_congr_left fun q hq => by
    have hn : ¬ okB H i := by unfold okB; rw [hi]; simp
    rw [AV.mW hn (h p hp q hq)]
    rfl).trans (List.map_id _)
  rw [this]; rfl
theorem Qa.cons {H : List (Option (List CV))} {g : List (Nat × List (Nat × AV))} {f : Nat} {e : List (Nat × AV)} (he : ∀ q, q ∈ e -> q.2.ok (okB H)) (h : Qa H g) : Qa H ((f, e) :: g) := fun p hp => by
  rcases List.mem_cons.1 hp with rfl | hp
  · exact he
  · exact h p hp
theorem Qa.nil (H : List (Option (List CV))) : Qa H [] := fun p hp => by cases hp
attribute [go_sem] AS.mv Rl mvG mvH Ja AV.mv TV.mv CV.mv LV.mv Wn Kn OO PY
end Go.Sea
namespace Go.Sea
open Go.RowKit Go.Sea
def WT (D : Nat -> Bool) : List Nat -> Prop
  | [] => True
  | k :: r => D k = true /\ WT D r
def dnF (D : Nat -> Bool) : List Nat -> Prop
  | [] => True
  | k :: r => D k = false /\ dnF D r
def EU (D : Nat -> Bool) (i : Nat) : Nat -> Bool := fun k => if k = i then true else D k
def ag0 (ops : Array Oper) (TF : List (List Nat × List Nat)) : Bool := TF.length == ops.size && (List.range ops.size).all fun i =>
  (TF.getD i ([], [])).1.all (fun k => ((masks [] ops.toList).getD i 0).testBit k) && (TF.getD i ([], [])).2.all (fun k => k == i || (decide (k < ops.size) && ((masks [] ops.toList).getD k 0).testBit i))
def Le (P : Program) (os : List Oper) (n0 : Nat) (L : List Nat) (S : (Nat -> Bool) -> AS) : Nat -> List (List Nat × List Nat) -> Prop
  | _, [] => True
  | i, (T, F) :: r => (∀ D, WT D T -> dnF D F -> Hq P n0 i (S D) (fun s' => Leaf ⟨bf s'.env L, s'.heap, s'.N, s'.gh, s'.lp⟩ (S (EU D i))) (zi os i)) /\ Le P os n0 L S (i + 1) r
theorem PL {P : Program} {os : List Oper} {n0 i : Nat} {L : List Nat} {S : (Nat -> Bool) -> AS} : Le P os n0 L S i [] := trivial
theorem KS {P : Program} {os : List Oper} {n0 i : Nat} {L : List Nat} {S : (Nat -> Bool) -> AS} {T F : List Nat} {r : List (List Nat × List Nat)} (h : ∀ D, WT D T -> dnF D F -> ∀ K : AS -> Prop, (∀ s' : AS, Leaf ⟨bf s'.env L, s'.heap, s'.N, s'.gh, s'.lp⟩ (S (EU D i)) -> K s') -> Hq P n0 i (S D) K (zi os i)) (h2 : Le P os n0 L S (i + 1) r) : Le P os n0 L S i ((T, F) :: r) :=
  ⟨fun D hT hF => h D hT hF _ fun _ h => h, h2⟩
theorem Mt {P : Program} {os : List Oper} {n0 : Nat} {L : List Nat} {S : (Nat -> Bool) -> AS} : ∀ {TF : List (List Nat × List Nat)} {j i : Nat}, Le P os n0 L S j TF -> i < TF.length -> ∀ D, WT D (TF.getD i ([], [])).1 -> dnF D (TF.getD i ([], [])).2 -> Hq P n0 (j + i) (S D) (fun s' => Leaf ⟨bf s'.env L, s'.heap, s'.N, s'.gh, s'.lp⟩ (S (EU D (j + i)))) (zi os (j + i))
  | (T, F) :: r, j, 0, h, _ => h.1
  | (T, F) :: r, j, i + 1, h, hi => by
    have := Mt (i := i) h.2 (by simpa using hi)
    rw [show j + 1 + i = j + (i + 1) by omega] at this
    exact this
theorem K4 {D : Nat -> Bool} : ∀ {l : List Nat}, (∀ k, k ∈ l -> D k = true) -> WT D l
  | [], _ => trivial
  | k :: l, h => ⟨h k (List.mem_cons_self ..), K4 fun j hj => h j (List.mem_cons_of_mem _ hj)⟩
theorem RG {D : Nat -> Bool} : ∀ {l : List Nat}, (∀ k, k ∈ l -> D k = false) -> dnF D l
  | [], _ => trivial
  | k :: l, h => ⟨h k (List.mem_cons_self ..), RG fun j hj => h j (List.mem_cons_of_mem _ hj)⟩
theorem CW {w0 : World} {Z0 : Fr} {s s' : AS} {a : Act} {w : World} {L : List Nat} (h : Leaf ⟨bf s.env L, s.heap, s.N, s.gh, s.lp⟩ s') (R : l5 w0 Z0 s a w) : l5 w0 Z0 s' a w := by
  obtain ⟨rfl⟩ := h
  obtain ⟨J, Z, R⟩ := R
  exact ⟨J, Z, R.nodef, R.size, R.below, R.zfrom, R.zlt, R.jlt, R.inj, R.hole, R.blk, fun t => by
    rcases Bz s.env t L with e | e
    · show bD _ _ _ _ (lk (bf s.env L) t); rw [e]; trivial
    · show bD _ _ _ _ (lk (bf s.env L) t); rw [e]; exact R.slots t, R.ghost, R.loops, R.lnd, R.ro, R.tab⟩
theorem LB {P : Program} {s : AS} {Q : Exit -> AS -> Prop} {id : Nat} {ops : Array Oper} (n0 : Nat) (L : List Nat) (TF : List (List Nat × List Nat)) (A : List Nat) (S : (Nat -> Bool) -> AS) (hm : P.follows .mixedOrders = true) (hback : qz .any ops = true) (hd : iE ops = true) (hc : ag0 ops TF = true)
    (h0 : Leaf ⟨bf s.env L, s.heap, s.N, s.gh, s.lp⟩ (S fun _ => false)) (h : Le P ops.toList n0 L S 0 TF) (hA : (A.all fun k => decide (k < ops.size)) = true) (hq : ∀ D, WT D A -> Q .normal (S D)) : AW P (.region id ops true) s Q := fun w0 Z0 a w n R => by
  simp only [ag0, Bool.and_eq_true, beq_iff_eq] at hc
  refine oZ (dM _) (fun _ D a w => l5 w0 Z0 (S D) a w) hm hd hback ?_ ?_ fun D a w hD R' => ?_
  · obtain ⟨J, Z, R⟩ := CW h0 R
    exact ⟨J, Z, R.drew⟩
  · refine Steps.of ops.toList 0 fun i o ho D a w R' hDi hpre hcl K hK => ?_
    rw [Nat.zero_add] at hDi
    simp only [Nat.zero_add] at hK
    have hoi : ops[i]? = some o := by rw [<- Array.getElem?_toList]; exact ho
    have hi : i < ops.size := (Array.getElem?_eq_some_iff.1 hoi).1
    have hE := List.all_eq_true.1 hc.2 i (List.mem_range.2 hi)
    rw [Bool.and_eq_true] at hE
    have hT : WT D (TF.getD i ([], [])).1 := K4 fun k hk => (nL (ops := ops) (List.all_eq_true.1 hE.1 k hk)).done hcl o hoi hpre
    have hF : dnF D (TF.getD i ([], [])).2 := RG fun k hk => by
      have h1 := List.all_eq_true.1 hE.2 k hk
      rw [Bool.or_eq_true, beq_iff_eq, Bool.and_eq_true, decide_eq_true_eq] at h1
      rcases h1 with rfl | ⟨h1, h2⟩
      · exact hDi
      · cases hk' : D k with
        | false => rfl
        | true =>
          have ho' : ops[k]? = some ops[k] := Array.getElem?_eq_getElem h1
          have := (nL (ops := ops) h2).done hcl _ ho' (hcl k _ ho' hk')
          rw [hDi] at this; cases this
    have hop := Mt h (i := i) (by omega) D hT hF
    rw [Nat.zero_add] at hop
    rw [I9, Array.getElem?_toList, hoi] at hop
    obtain ⟨hg, hop⟩ := hop
    split at hop
    · rename_i nd v ef hof
      obtain ⟨hh, hdst, hnd, hrun⟩ := hop
      obtain ⟨J, Z, R'⟩ := R'
      have hw : Region.wanted o (yielded ops a.tmps) = true := by simp [Region.wanted, hg]
      rw [if_pos hw]
      refine rV (kX R' hh hof hnd) fun J' w' u R'' hr' => hK _ _ ?_
      have e : upd D i = EU D i := by
        funext k
        unfold EU
        by_cases hk : k = i
        · subst hk; simp [upd]
        · rw [upd_ne D hk, if_neg hk]
      show l5 w0 Z0 (S (upd D i)) _ _
      rw [e]
      exact CW hrun ⟨J', Z, R''.put (fun k e => by rw [Co]; exact dz hdst k e) hr'⟩
    · exact hop.elim
  · exact ⟨S D, R', hq D (K4 fun k hk => hD k (of_decide_eq_true (List.all_eq_true.1 hA k hk)))⟩
end Go.Sea
