/- Part 11 of 16: contracts of functions and plain laws for the root text. No condition. -/
import Derived.Test.YtmnejmpjmniiiaaGreatDoorW01
import Derived.Test.YtmnejmpjmniiiaaGreatDoorW02
import Derived.Test.YtmnejmpjmniiiaaGreatDoorW03
import Derived.Test.YtmnejmpjmniiiaaGreatDoorW04
import Derived.Test.YtmnejmpjmniiiaaGreatDoorW05
import Derived.Test.YtmnejmpjmniiiaaGreatDoorW06
import Derived.Test.YtmnejmpjmniiiaaGreatDoorW07
import Derived.Test.YtmnejmpjmniiiaaGreatDoorW08
import Derived.Test.YtmnejmpjmniiiaaGreatDoorW09
import Derived.Test.YtmnejmpjmniiiaaGreatDoorW10
set_option linter.unusedVariables false
set_option linter.unusedSimpArgs false
set_option maxRecDepth 100000
set_option maxHeartbeats 4000000
namespace Go.Proofs.YtmnejmpjmniiiaaGreatDoor
open Go.RowKit Go.Sea
open Nat renaming reduceAdd → xA, reduceLT → xL, reduceLeDiff → xD, reduceEqDiff → xE, reduceMul → xM, reduceSub → xS, reduceBEq → xB
theorem ar_71 : arD Tryz.prog 71 = none := by kernel_rfl
theorem fnok_100 : fnOk Tryz.prog 100 = true := by kernel_rfl
theorem fnok_110 : fnOk Tryz.prog 110 = true := by kernel_rfl
theorem fnok_111 : fnOk Tryz.prog 111 = true := by kernel_rfl
theorem fnok_112 : fnOk Tryz.prog 112 = true := by kernel_rfl
theorem fnok_113 : fnOk Tryz.prog 113 = true := by kernel_rfl
theorem fnok_66 : fnOk Tryz.prog 66 = true := by kernel_rfl
theorem fnok_81 : fnOk Tryz.prog 81 = true := by kernel_rfl
theorem fnok_83 : fnOk Tryz.prog 83 = true := by kernel_rfl
theorem fnok_99 : fnOk Tryz.prog 99 = true := by kernel_rfl
theorem in_153 : inD Tryz.prog 153 = some .u32 := by kernel_rfl
theorem in_3 : inD Tryz.prog 3 = some .i64 := by kernel_rfl
theorem of_73_1 : offOf Tryz.prog 73 1 = some 1 := by kernel_rfl
theorem of_73_3 : offOf Tryz.prog 73 3 = some 3 := by kernel_rfl
theorem sl_71 : slD Tryz.prog 71 = some (1, 8, 89) := by kernel_rfl
theorem ty_155 : tyD Tryz.prog 155 = some (false, 1) := by kernel_rfl
theorem ty_68 : tyD Tryz.prog 68 = some (false, 1) := by kernel_rfl
theorem ty_71 : tyD Tryz.prog 71 = some (false, 1) := by kernel_rfl
theorem ty_88 : tyD Tryz.prog 88 = some (false, 1) := by kernel_rfl
theorem ty_89 : tyD Tryz.prog 89 = some (false, 1) := by kernel_rfl
theorem zc_27 : zeroC Tryz.prog 27 = some [.iv (.g (.slice none 0 0))] := by kernel_rfl
theorem zc_89 : zeroC Tryz.prog 89 = some [.iv (.g (.int .u64 0))] := by kernel_rfl
attribute [go_sem] ar_71 fnok_111 fnok_112 fnok_113 fnok_66 fnok_81 fnok_83 fnok_99 in_153 in_3 of_73_1 of_73_3 sl_71 ty_155 ty_68 ty_71 ty_88 ty_89 zc_27 zc_89
theorem tz_p (s : Nat) (hs : s < 1024) : CallsP Tryz.prog 111 [.one (.g (.int .u64 (s : Int)))] (.t (.one (.g (.int .i64 (cz s : Nat))))) :=
  CallsP_vals rfl rfl fun w hT => (Tryz.bits_TrailingZeros s (by omega) w (fun _ => hT)).mono fun e w' ⟨he, hw⟩ => ⟨he, hw ▸ Below.refl _ _⟩
structure ChS where
  x : CaS
  P : Nat → Nat
  F : Nat → Nat
  c : Nat
  C : Nat → Nat → IV
def uF (P : Nat → Nat) (i : Nat) (_ : Nat) : IV := .g (.int .u64 (P i : Int))
def chC : ChS → Nat → IV
  | K, 0 => .lst 9 K.x.n (featF K.x.f)
  | K, 1 => .lst 2 K.x.m (stF K.x.S)
  | K, 2 => .lst 1 K.x.mo (ptF K.x.O)
  | K, 3 => .lst 1 K.x.m (uF K.P)
  | K, 4 => .lst 1 K.x.m (uF K.F)
  | K, _ + 5 => .lst 4 K.c K.C
theorem chC0 (K : ChS) : chC K 0 = .lst 9 K.x.n (featF K.x.f) := rfl
theorem chC1 (K : ChS) : chC K 1 = .lst 2 K.x.m (stF K.x.S) := rfl
theorem chC2 (K : ChS) : chC K 2 = .lst 1 K.x.mo (ptF K.x.O) := rfl
theorem chC3 (K : ChS) : chC K 3 = .lst 1 K.x.m (uF K.P) := rfl
theorem chC4 (K : ChS) : chC K 4 = .lst 1 K.x.m (uF K.F) := rfl
theorem chC5 (K : ChS) : chC K 5 = .lst 4 K.c K.C := rfl
theorem uF0 (P : Nat → Nat) (i o : Nat) : uF P i o = .g (.int .u64 (P i : Int)) := rfl
structure ChS.Ok (K : ChS) : Prop where
  x : K.x.Ok
  m : K.x.m ≤ 10
  mo : K.x.mo = K.x.m
  P : ∀ i, i < K.x.m → K.P i < 1024
  F : ∀ i, i < K.x.m → K.F i < 1024
  v : feaB K.x.n K.x.f = true
def cnt (s : Nat) : Nat := (bl s).length
def inS (m s : Nat) : Prop := s < 2 ^ m
theorem inS_lt {m s : Nat} (hm : m ≤ 10) (h : inS m s) : s < 1024 := Nat.lt_of_lt_of_le h (show 2 ^ m ≤ 2 ^ 10 from Nat.pow_le_pow_right (by decide) hm)
theorem inS_bit {m s i : Nat} (h : inS m s) (hi : s.testBit i = true) : i < m := by
  cases Nat.lt_or_ge i m with
  | inl g => exact g
  | inr g =>
    rw [Nat.testBit_lt_two_pow (Nat.lt_of_lt_of_le h (Nat.pow_le_pow_right (by decide) g))] at hi; cases hi
theorem inS_mem {m s i : Nat} (h : inS m s) (hi : i ∈ bl s) : i < m := inS_bit h (bl_mem.1 hi).2
def rdI (s : Nat) (z : List Nat × Nat) : Prop := z.1 ++ bl z.2 = bl s ∧ z.2 < 1024
theorem rdI_0 {s : Nat} (h : s < 1024) : rdI s ([], s) := ⟨rfl, h⟩
theorem rdI_s {s r : Nat} {l : List Nat} (h : rdI s (l, r)) (h0 : 0 < r) : rdI s (l ++ [cz r], r &&& (r - 1)) ∧ r &&& (r - 1) < r := by
  have e := bl_all r h.2 h0
  refine ⟨⟨?_, Nat.lt_trans e.2.1 h.2⟩, e.2.1⟩
  have := h.1
  simp only at this ⊢
  rw [e.1] at this
  rw [List.append_assoc]; exact this
theorem rdI_e {s : Nat} {l : List Nat} (h : rdI s (l, 0)) : l = bl s := by have := h.1; simp only [bl_z, List.append_nil] at this; exact this
theorem rdI_cz {s r m : Nat} {l : List Nat} (hs : inS m s) (h : rdI s (l, r)) (h0 : 0 < r) : cz r < m := by
  refine inS_mem hs ?_
  rw [← h.1]; simp only
  rw [(bl_all r h.2 h0).1]; simp
theorem rdI_le {s r : Nat} {l : List Nat} (h : rdI s (l, r)) : l.length ≤ 10 := by
  have h1 : l.length ≤ (bl s).length := by rw [← h.1]; simp
  have h2 : (bl s).length ≤ 10 := by have := List.length_filter_le s.testBit (List.range 10); simpa [bl] using this
  omega
theorem u_predW {r : Nat} (h0 : 0 < r) (h : r < 1024) : bits .and .u64 (r : Int) (IntKind.u64.wrap ((r : Int) - 1)) = ((r &&& (r - 1) : Nat) : Int) := by
  rw [show (r : Int) - 1 = ((r - 1 : Nat) : Int) by omega, wrN _ (by omega)]; exact u_and (by omega) (by omega)
theorem u_shl6 {k : Nat} (h : k < 64) : IntKind.u64.wrap (1 * 2 ^ (min k 64)) = ((2 ^ k : Nat) : Int) := u_shl h
def wrL (S : Nat → StepS) (l : List Nat) : List Int := l.map fun i => (S i).nu
theorem wrL_s (S : Nat → StepS) (l : List Nat) (i : Nat) : wrL S (l ++ [i]) = wrL S l ++ [(S i).nu] := by simp [wrL]
theorem wrL_0 (S : Nat → StepS) : wrL S [] = [] := rfl
theorem wrL_len (S : Nat → StepS) (l : List Nat) : (wrL S l).length = l.length := by simp [wrL]
def orL (P : Nat → Nat) (a : Nat) (l : List Nat) : Nat := l.foldl (fun a i => a ||| P i) a
theorem orL_s (P : Nat → Nat) (a : Nat) (l : List Nat) (i : Nat) : orL P a (l ++ [i]) = orL P a l ||| P i := by simp [orL]
theorem orL_lt {P : Nat → Nat} : ∀ {l : List Nat} {a : Nat}, a < 1024 → (∀ i, i ∈ l → P i < 1024) → orL P a l < 1024
  | [], _, h, _ => h
  | i :: l, a, h, hp => orL_lt (l := l) (or_lt h (hp i (List.mem_cons_self ..))) fun j hj => hp j (List.mem_cons_of_mem _ hj)
theorem cloN_orL (P : Nat → Nat) (s : Nat) : cloN P s = orL P s (bl s) := rfl
theorem u_orP {a p : Nat} (h : a < 1024) (hp : p < 1024) : bits .or .u64 (a : Int) (p : Int) = ((a ||| p : Nat) : Int) := u_or (by omega) (by omega)
theorem u_all {m : Nat} (h : m ≤ 10) : IntKind.u64.wrap (IntKind.u64.wrap (1 * 2 ^ (min (m : Int).toNat IntKind.u64.bits)) - 1) = ((2 ^ m - 1 : Nat) : Int) := by
  have h2 : 2 ^ m ≤ 2 ^ 10 := Nat.pow_le_pow_right (by decide) h
  have h0 : 0 < 2 ^ m := Nat.pow_pos (by decide)
  rw [u_shl (by omega), IntKind.wrap_u64]; omega
def lsA (a : Nat → Int) (j : Nat) : Int := if j = 0 then 0 else a (j - 1)
theorem lsA_0 (a : Nat → Int) : lsA a 0 = 0 := rfl
theorem lsA_s (a : Nat → Int) (j : Nat) : lsA a (j + 1) = a j := by unfold lsA; rw [if_neg (by omega)]; rfl
def setP (S : Nat → StepS) (m : Nat) (a : Nat → Int) (j : Nat) : Prop := ixM S m (a j) < m ∧ lsA a j < a j
instance (S : Nat → StepS) (m : Nat) (a : Nat → Int) (j : Nat) : Decidable (setP S m a j) := by unfold setP; infer_instance
def setB (S : Nat → StepS) (m q : Nat) (a : Nat → Int) : Bool := decide (∀ j, j < q → setP S m a j)
def rdN (S : Nat → StepS) (m : Nat) (a : Nat → Int) : Nat → Nat
  | 0 => 0
  | j + 1 => rdN S m a j ||| 2 ^ ixM S m (a j)
theorem rdN_0 (S : Nat → StepS) (m : Nat) (a : Nat → Int) : rdN S m a 0 = 0 := rfl
theorem rdN_in {S : Nat → StepS} {m : Nat} {a : Nat → Int} : ∀ {j : Nat}, (∀ i, i < j → setP S m a i) → inS m (rdN S m a j)
  | 0, _ => Nat.pow_pos (by decide)
  | j + 1, h => Nat.or_lt_two_pow (rdN_in fun i hi => h i (by omega)) (Nat.pow_lt_pow_right (by decide) (h j (by omega)).1)
def rdV (S : Nat → StepS) (m q : Nat) (a : Nat → Int) : Nat := if setB S m q a = true then rdN S m a q else 0
theorem set_f {S : Nat → StepS} {m q : Nat} {a : Nat → Int} {j : Nat} (hj : (j : Int) < q) (h : ¬ setP S m a j) : (0 : Int) = ((rdV S m q a : Nat) : Int) ∧ false = setB S m q a := by
  have e : setB S m q a = false := decide_eq_false fun g => h (g j (by omega))
  unfold rdV; rw [e]; exact ⟨rfl, rfl⟩
theorem set_t {S : Nat → StepS} {m q : Nat} {a : Nat → Int} {j : Nat} (hj : (q : Int) ≤ j) (hj2 : j ≤ q) (h : ∀ i, i < j → setP S m a i) : rdN S m a j = rdV S m q a ∧ true = setB S m q a := by
  have e0 : j = q := by omega
  subst e0
  have e : setB S m j a = true := decide_eq_true h
  unfold rdV; rw [e]; exact ⟨rfl, rfl⟩
def ixV (S : Nat → StepS) (m : Nat) (x : Int) : Int := if ixM S m x < m then ixM S m x else -1
theorem ixV_h {S : Nat → StepS} {m t : Nat} {x : Int} (ht : (t : Int) < m) (h : (S t).nu = x) (g : ∀ j, j < t → (S j).nu ≠ x) : (t : Int) = ixV S m x := by
  have e : ixM S m x = t := fstB_h (b := fun i => decide ((S i).nu = x)) (decide_eq_true h) (fun j hj => decide_eq_false (g j hj)) m (by omega)
  unfold ixV; rw [e, if_pos (by omega)]
theorem ixV_n {S : Nat → StepS} {m t : Nat} {x : Int} (ht : (m : Int) ≤ t) (g : ∀ j, j < t → (S j).nu ≠ x) : -1 = ixV S m x := by
  have e : ixM S m x = m := fstB_t m fun j hj => decide_eq_false (g j (by omega))
  unfold ixV; rw [e, if_neg (by omega)]
theorem ixV_cs (S : Nat → StepS) (m : Nat) (x : Int) : (ixV S m x = (ixM S m x : Nat) ∧ ixM S m x < m) ∨ (ixV S m x = -1 ∧ m ≤ ixM S m x) := by
  unfold ixV
  split
  · exact Or.inl ⟨rfl, by assumption⟩
  · exact Or.inr ⟨rfl, by omega⟩
theorem set_f1 {S : Nat → StepS} {m : Nat} {a : Nat → Int} {j : Nat} (h : m ≤ ixM S m (a j)) : ¬ setP S m a j := fun g => by have := g.1; omega
theorem set_f2 {S : Nat → StepS} {m : Nat} {a : Nat → Int} {j : Nat} (h : a j ≤ lsA a j) : ¬ setP S m a j := fun g => by have := g.2; omega
theorem rdN_or {S : Nat → StepS} {m : Nat} (hm : m ≤ 10) {a : Nat → Int} {j : Nat} (h : ∀ i, i < j → setP S m a i) (hk : ixM S m (a j) < m) : bits .or .u64 (rdN S m a j : Int) ((2 ^ ixM S m (a j) : Nat) : Int) = ((rdN S m a (j + 1) : Nat) : Int) := by
  have h1 := inS_lt hm (rdN_in h)
  have h2 := p2_lt (k := ixM S m (a j)) (by omega)
  exact u_or (by omega) (by omega)
theorem orL_or {P : Nat → Nat} {a : Nat} {l : List Nat} {i : Nat} (h : orL P a l < 1024) (hp : P i < 1024) : bits .or .u64 (orL P a l : Int) (P i : Int) = ((orL P a (l ++ [i]) : Nat) : Int) := by rw [orL_s]; exact u_orP h hp
theorem rdI_mem {s r m : Nat} {l : List Nat} (hs : inS m s) (h : rdI s (l, r)) : ∀ i, i ∈ l → i < m := fun i hi => inS_mem hs (by rw [← h.1]; exact List.mem_append_left _ hi)
theorem orL_0 (P : Nat → Nat) (a : Nat) : orL P a [] = a := rfl
theorem oc64_p (s : Nat) (hs : s < 1024) : CallsP Tryz.prog 113 [.one (.g (.int .u64 ((s : Int))))] (.t (.one (.g (.int .i64 ((cnt s : Nat)))))) := by
  refine CallsP_of Tryz.func113 rfl (by rw [Tryz.ntmps113]; simp) ?_
  simp only [Tryz.ntmps113, zM, PT.tv, argEnv, Nat.zero_add, Nat.reduceAdd]
  repeat' (first
 | ((with_reducible show AW _ _ _ _); first
 | (with_reducible first | refine aS (fun K hK => ?_) | refine aT ?_)
 | (first
 | (with_reducible first | refine aP 0 [0] ?_ | refine aP 1 [0] ?_ | refine aP 2 [0] ?_ | refine aP 3 [0] ?_ | refine aP 4 [0] ?_ | refine aP 5 [0] ?_ | refine aP 6 [0] ?_ | refine aP 7 [0] ?_)))
 | (((with_reducible refine And.intro ?_ ?_)); focus (omega))
 | (with_reducible refine retK_n ?_)
 | ((fail_if_success (with_reducible show AW _ _ _ _)); simp (maxSteps := 2000000) only [go_sem, reduceIte, reduceCtorEq, xA, xL, xD, xE, xM, xS, xB, Tryz.f113])
 | ((with_reducible refine hK _ ?_); clear hK K))
  all_goals ((revert hs; revert s; decide +kernel))
theorem oc_p (s : Nat) (hs : s < 1024) : CallsP Tryz.prog 83 [.one (.g (.int .u64 ((s : Int))))] (.t (.one (.g (.int .i64 ((cnt s : Nat)))))) := by
  refine CallsP_of Tryz.func83 rfl (by rw [Tryz.ntmps83]; simp) ?_
  simp only [Tryz.ntmps83, zM, PT.tv, argEnv, Nat.zero_add, Nat.reduceAdd]
  repeat' (first
 | ((with_reducible show AW _ _ _ _); first
 | (with_reducible first | refine aS (fun K hK => ?_) | refine aI ?_ | refine aT ?_ | refine aC ?_)
 | (first
 | (with_reducible first | refine aP 0 [0] ?_ | refine aP 2 [0] ?_)))
 | (((with_reducible refine Need.mk ?_)); focus (exact True.intro))
 | (with_reducible refine retK_n ?_)
 | ((with_reducible show condN _ _ _ _ _ _); first
 | ((with_reducible refine condN_t ?_ ?_) <;> (intro hc; (try simp only [zB, zC, reduceCtorEq] at hc); (try (exfalso; contradiction)))))
 | ((with_reducible show callN _ _ _ _ _ _ _ _ _ _); first
 | (refine callN_q (k := 113) fnok_113 (oc64_p s hs) ?_ ?_))
 | ((fail_if_success (with_reducible show AW _ _ _ _)); simp (maxSteps := 2000000) only [go_sem, reduceIte, reduceCtorEq, xA, xL, xD, xE, xM, xS, xB, Tryz.f83])
 | ((with_reducible refine hK _ ?_); clear hK K))
theorem size_p (s : Nat) (hs : s < 1024) : CallsP Tryz.prog 51 [.one (.g (.int .u64 ((s : Int))))] (.t (.one (.g (.int .i64 ((cnt s : Nat)))))) := by
  refine CallsP_of Tryz.func51 rfl (by rw [Tryz.ntmps51]; simp) ?_
  simp only [Tryz.ntmps51, zM, PT.tv, argEnv, Nat.zero_add, Nat.reduceAdd]
  repeat' (first
 | ((with_reducible show AW _ _ _ _); first
 | (with_reducible first | refine aS (fun K hK => ?_) | refine aT ?_)
 | (first
 | (with_reducible first | refine aP 0 [0] ?_ | refine aP 1 [0] ?_)))
 | (((with_reducible refine Need.mk ?_)); focus (exact True.intro))
 | (with_reducible refine retK_n ?_)
 | ((with_reducible show callN _ _ _ _ _ _ _ _ _ _); first
 | (refine callN_q (k := 83) fnok_83 (oc_p s hs) ?_ ?_))
 | ((fail_if_success (with_reducible show AW _ _ _ _)); simp (maxSteps := 2000000) only [go_sem, reduceIte, reduceCtorEq, xA, xL, xD, xE, xM, xS, xB, Tryz.f51])
 | ((with_reducible refine hK _ ?_); clear hK K))
theorem bef_p (s t : Nat) (hs : s < 1024) (ht : t < 1024) : CallsP Tryz.prog 52 [.one (.g (.int .u64 ((s : Int)))), .one (.g (.int .u64 ((t : Int))))] (.t (.one (.g (.bool (befB s t))))) := by
  refine CallsP_of Tryz.func52 rfl (by rw [Tryz.ntmps52]; simp) ?_
  simp only [Tryz.ntmps52, zM, PT.tv, argEnv, Nat.zero_add, Nat.reduceAdd]
  repeat' (first
 | ((with_reducible show AW _ _ _ _); first
 | (with_reducible first | refine aS (fun K hK => ?_) | refine aT ?_)
 | (first
 | (with_reducible first | refine aP 0 [0,1] ?_ | refine aP 1 [0,1] ?_ | refine aP 2 [0,5] ?_)))
 | (with_reducible refine retK_n ?_)
 | ((fail_if_success (with_reducible show AW _ _ _ _)); simp (maxSteps := 2000000) only [go_sem, reduceIte, reduceCtorEq, xA, xL, xD, xE, xM, xS, xB, Tryz.f52])
 | ((with_reducible refine hK _ ?_); clear hK K))
  all_goals (exact u_bef hs ht)
theorem all_p (Y : ChS) (hY : Y.Ok) : CallsP Tryz.prog 58 [.one (.ptr 6 (chC Y))] (.t (.one (.g (.int .u64 (((2 ^ Y.x.m - 1 : Nat) : Int)))))) := by
  have hm := hY.m
  refine CallsP_of Tryz.func58 rfl (by rw [Tryz.ntmps58]; simp) ?_
  simp only [Tryz.ntmps58, zM, PT.tv, argEnv, Nat.zero_add, Nat.reduceAdd]
  repeat' (first
 | (refine callK_shl rfl rfl (by omega) ?_)
 | ((with_reducible show AW _ _ _ _); first
 | (with_reducible first | refine aS (fun K hK => ?_) | refine aT ?_)
 | (first
 | (with_reducible first | refine aP 0 [0] ?_ | refine aP 1 [0] ?_)))
 | (with_reducible refine retK_n ?_)
 | ((fail_if_success (with_reducible show AW _ _ _ _)); simp (maxSteps := 2000000) only [go_sem, reduceIte, reduceCtorEq, xA, xL, xD, xE, xM, xS, xB, Tryz.f58, chC0, chC1, chC2, chC3, chC4, chC5, uF0, stF0, stF1, ptF0])
 | ((with_reducible refine hK _ ?_); clear hK K))
  all_goals (exact u_all hm)
theorem idx_p (Y : ChS) (hY : Y.Ok) (y : Int) : CallsP Tryz.prog 66 [.one (.ptr 6 (chC Y)), .one (.g (.int .i64 y))] (.t (.one (.g (.int .i64 (ixV Y.x.S Y.x.m y))))) := by
  have hm := hY.m
  refine CallsP_of Tryz.func66 rfl (by rw [Tryz.ntmps66]; simp) ?_
  simp only [Tryz.ntmps66, zM, PT.tv, argEnv, Nat.zero_add, Nat.reduceAdd]
  repeat' (first
 | ((with_reducible show AW _ _ _ _); first
 | (with_reducible first | refine aS (fun K hK => ?_) | refine aI ?_ | refine aX ?_ | refine aT ?_ | refine aC ?_ | refine aB ?_)
 | (first
 | (with_reducible first | refine aP (ops := #[⟨some 3, _, _, _, _, _⟩, _]) 0 [0,1] ?_ | refine aP (ops := #[⟨some 4, _, _, _, _, _⟩]) 0 [0,1] ?_ | refine aP (ops := #[⟨some 2, _, _, _, _, _⟩, _]) 0 [0,1] ?_ | refine aP (ops := #[⟨some 5, _, _, _, _, _⟩, _, _, _, _, _, _]) 1 [0,3] ?_ | refine aP (ops := #[⟨some 6, _, _, _, _, _⟩, _, _]) 1 [0,1] ?_ | refine aP (ops := #[⟨some 4, _, _, _, _, _⟩, _, _, _, _]) 1 [1,2] ?_ | refine aP 2 [0,1,7,8] ?_ | refine aP 3 [0,1,7,8] ?_ | refine aP 4 [0,1,5,7,8] ?_ | refine aP 5 [5] ?_ | refine aP 6 [0,1,7,8] ?_ | refine aP 7 [] ?_))
 | ((with_reducible show AW _ (Code.loop _) _ _); first
 | ((with_reducible refine aL (c := (Code.seq (Code.region 2 _ _) _)) (ι := Nat) [0,1,7] (fun t => [(8, iA .i64 (t : Int))]) (fun t => []) (fun t => t ≤ Y.x.m ∧ (∀ t', t' < t → (Y.x.S t').nu ≠ y)) (fun t => Y.x.m - t) 0 ?lg2 ?l12 ?l22 ?li2 ?lr2); (case' lg2 => rintro t _); (case' li2 => try (exact ⟨Nat.zero_le _, fun i hi => absurd hi (Nat.not_lt_zero _)⟩)); (case' lr2 => rintro t ⟨hi, hai⟩ KR hR2; simp only [keepE, hupd, hset, lk, if_true, if_false, xE, reduceIte, zN, chC0, chC1, chC2, chC3, chC4, chC5, uF0, stF0, stF1, ptF0]))))
 | (((with_reducible refine And.intro ?_ ?_)); focus (omega))
 | (with_reducible refine retK_n ?_)
 | ((with_reducible show condN _ _ _ _ _ _); first
 | ((with_reducible refine condN_t ?_ ?_) <;> (intro hc; (try simp only [zB, zC, reduceCtorEq] at hc); (try (exfalso; contradiction)))))
 | ((with_reducible refine hR2 _ (t + 1) ?_); (try clear hR2 KR))
 | ((with_reducible refine Told.mk ?_); simp only [go_sem, reduceIte, reduceCtorEq, xA, xL, xD, xE, xM, xS, xB, chC0, chC1, chC2, chC3, chC4, chC5, uF0, stF0, stF1, ptF0] <;> ((((try simp (disch := omega) only [seaWrap, Int.natCast_add, Int.cast_ofNat_Int, and_true, true_and, and_self]); (repeat' (first | omega | (with_reducible refine And.intro ?_ ?_) | (exact all_succ (by assumption) (by assumption)) )); done))))
 | ((fail_if_success (with_reducible show AW _ _ _ _)); simp (maxSteps := 2000000) only [go_sem, reduceIte, reduceCtorEq, xA, xL, xD, xE, xM, xS, xB, Tryz.f66, Tryz.f99, Tryz.f100, chC0, chC1, chC2, chC3, chC4, chC5, uF0, stF0, stF1, ptF0])
 | ((with_reducible show callN _ _ _ _ _ _ _ _ _ _); first
 | ((refine callN_i (k := 99) Tryz.func99 rfl fnok_99 (by rw [Tryz.ntmps99]; simp) ?_ ?_ (fun K hK => ?_)); (focus (exact True.intro)); (focus ((simp [lsF]; done))); simp only [Tryz.ntmps99, List.map_cons, List.map_nil, List.nil_append, List.cons_append, List.append_nil, LV.tv, argEnv, Nat.zero_add, Nat.reduceAdd])
 | ((refine callN_ic (k := 100) Tryz.func100 rfl fnok_100 (by rw [Tryz.ntmps100]; simp) ?_ ?_ (fun K hK => ?_)); (focus (exact True.intro)); (focus ((simp [lsF]; done))); simp only [Tryz.ntmps100, List.map_cons, List.map_nil, List.nil_append, List.cons_append, List.append_nil, LV.tv, argEnv, Nat.zero_add, Nat.reduceAdd]))
 | ((with_reducible refine hK _ ?_); clear hK K)
 | (with_reducible apply_assumption -exfalso only [*]))
  all_goals (first | exact ixV_h (by omega) hc hai | exact ixV_n (by omega) hai)
theorem wri_p (Y : ChS) (hY : Y.Ok) (s : Nat) (hin : inS Y.x.m s) : CallsP Tryz.prog 53 [.one (.ptr 6 (chC Y)), .one (.g (.int .u64 ((s : Int))))] (.t (.one (.lst 1 (cnt s) (intI (zL (wrL Y.x.S (bl s))))))) := by
  have hm := hY.m
  have hs := inS_lt hm hin
  have mk0 : True := trivial
  have mk1 : True := trivial
  have hpr : True := trivial
  have hor : True := trivial
  refine CallsP_of Tryz.func53 rfl (by rw [Tryz.ntmps53]; simp) ?_
  simp only [Tryz.ntmps53, zM, PT.tv, argEnv, Nat.zero_add, Nat.reduceAdd]
  repeat' (first
 | ((with_reducible show AW _ _ _ _); first
 | (with_reducible first | refine aS (fun K hK => ?_) | refine aI ?_ | refine aX ?_ | refine aT ?_ | refine aC ?_ | refine aB ?_)
 | ((refine AW_rangeFuncH (k := 110) rfl Tryz.func110 rfl fnok_110 (by rw [Tryz.ntmps110]; simp) ?_ ?_ (fun l hlne A B hA hB => ?_)); (focus (simp (maxSteps := 2000000) only [go_sem, reduceIte, reduceCtorEq, xA, xL, xD, xE, xM, xS, xB, Tryz.f53, Tryz.f110, Tryz.f81, chC0, chC1, chC2, chC3, chC4, chC5, uF0, stF0, stF1, ptF0, hpr, wrL_0, rowI_pur, rowI_snoc, rowI_len, wrL_len, maxLen, intI]; try exact True.intro)); (focus (simp (maxSteps := 2000000) only [go_sem, reduceIte, reduceCtorEq, xA, xL, xD, xE, xM, xS, xB, Tryz.f53, Tryz.f110, Tryz.f81, chC0, chC1, chC2, chC3, chC4, chC5, uF0, stF0, stF1, ptF0, hpr, wrL_0, rowI_pur, rowI_snoc, rowI_len, wrL_len, maxLen, intI]; try exact True.intro)); simp only [Tryz.ntmps110, List.map_cons, List.map_nil, LV.tv, argEnv, yV, Nat.zero_add, Nat.reduceAdd]; clear hlne)
 | (with_reducible refine AW_eq (by assumption) ?_)
 | (first
 | (with_reducible first | refine aP (ops := #[⟨some 2, _, _, _, _, _⟩, _]) 0 [0,1,9] ?_ | refine aP (ops := #[⟨some 4, _, _, _, _, _⟩, _]) 0 [0,1] ?_ | refine aP (ops := #[⟨some 1, _, _, _, _, _⟩, _]) 0 [0] ?_ | refine aP (ops := #[⟨some 5, _, _, _, _, _⟩]) 1 [1,2,9] ?_ | refine aP (ops := #[⟨some 5, _, _, _, _, _⟩, _]) 1 [0,3] ?_ | refine aP (ops := #[⟨some 3, _, _, _, _, _⟩, _]) 1 [1] ?_ | refine aP (ops := #[⟨some 7, _, _, _, _, _⟩, _]) 2 [1,2,5,9] ?_ | refine aP (ops := #[⟨some 7, _, _, _, _, _⟩, _, _, _, _]) 2 [0,3] ?_ | refine aP (ops := #[⟨some 6, _, _, _, _, _⟩]) 3 [2,5,9] ?_ | refine aP (ops := #[⟨some 11, _, _, _, _, _⟩, _, _, _, _]) 3 [0,3] ?_)
 | ((with_reducible refine aR (c := Code.region 4 _ true) [2,5,6,9] ?_); (with_reducible refine AW_regionB 10 ?_ ?_ ?_ ?_ ?_); (focus kernel_rfl); (focus kernel_rfl); (focus kernel_rfl); (focus kernel_rfl))
 | (with_reducible refine aP 5 [5] ?_))
 | ((with_reducible show AW _ (Code.loop _) _ _); first
 | ((with_reducible refine aL (c := (Code.seq (Code.seq (Code.region 1 _ _) _) _)) (ι := List Nat × Nat) [0] (fun ⟨l, r⟩ => [(3, .t (.one (.iv (.g (.int .u64 (r : Int))))))]) (fun ⟨l, r⟩ => [(1, [.slc 3 0 l.length 1]), (3, rowI (wrL Y.x.S l))]) (fun ⟨l, r⟩ => rdI s (l, r)) (fun ⟨l, r⟩ => r) ([], s) ?lg1 ?l11 ?l21 ?li1 ?lr1); (case' lg1 => rintro ⟨l, r⟩ _); (case' li1 => try (exact rdI_0 hs)); (case' lr1 => rintro ⟨l, r⟩ hz KR hR1; simp only [keepE, hupd, hset, lk, if_true, if_false, xE, reduceIte, zN, chC0, chC1, chC2, chC3, chC4, chC5, uF0, stF0, stF1, ptF0, hpr, wrL_0, rowI_pur, rowI_snoc, rowI_len, wrL_len, maxLen]))))
 | ((first | (with_reducible refine And.intro ?_ ?_) | (with_reducible refine Need.mk ?_)); focus (first | exact True.intro | omega))
 | (with_reducible refine retK_n ?_)
 | ((with_reducible show condN _ _ _ _ _ _); first
 | ((with_reducible refine condN_t ?_ ?_) <;> (intro hc; (try simp only [zB, zC, reduceCtorEq] at hc); ((try (clear mk0 hpr; have h0 : 0 < r := (by omega); have hz2 := rdI_s hz h0; have hr := hz.2; have hcz := rdI_cz hin hz h0; have hpr := u_predW h0 hr; have hle := rdI_le hz))); (try (exfalso; contradiction)))))
 | ((with_reducible refine And.intro ?_ ?_); focus (((with_reducible show chkS _ _ _ _ = true); kernel_rfl)))
 | ((with_reducible show callN _ _ _ _ _ _ _ _ _ _); first
 | (refine callN_q (k := 111) fnok_111 (tz_p r hz.2) ?_ ?_)
 | ((refine callN_i (k := 81) Tryz.func81 rfl fnok_81 (by rw [Tryz.ntmps81]; simp) ?_ ?_ (fun K hK => ?_)); (focus (exact True.intro)); (focus ((simp [lsF]; done))); simp only [Tryz.ntmps81, List.map_cons, List.map_nil, List.nil_append, List.cons_append, List.append_nil, LV.tv, argEnv, Nat.zero_add, Nat.reduceAdd]))
 | ((with_reducible refine hR1 _ (l ++ [cz r], r &&& (r - 1)) ?_); (try clear hR1 KR))
 | ((with_reducible refine Told.mk ?_); simp only [go_sem, reduceIte, reduceCtorEq, xA, xL, xD, xE, xM, xS, xB, chC0, chC1, chC2, chC3, chC4, chC5, uF0, stF0, stF1, ptF0, hpr, wrL_0, rowI_pur, rowI_snoc, rowI_len, wrL_len, maxLen, intI] <;> ((((try simp (disch := omega) only [seaWrap, Int.natCast_add, Int.cast_ofNat_Int, and_true, true_and, and_self]); (repeat' (first | omega | rfl | (with_reducible refine And.intro ?_ ?_) | ((exact hz2.1)) | ((rw [wrL_s]; exact wkC_eq rfl (rowI_iv _))) | ((simp only [List.length_append, List.length_cons, List.length_nil, Nat.zero_add]; done)))); done))))
 | ((fail_if_success (with_reducible show AW _ _ _ _)); simp (maxSteps := 2000000) only [go_sem, reduceIte, reduceCtorEq, xA, xL, xD, xE, xM, xS, xB, Tryz.f53, Tryz.f110, Tryz.f81, chC0, chC1, chC2, chC3, chC4, chC5, uF0, stF0, stF1, ptF0, hpr, wrL_0, rowI_pur, rowI_snoc, rowI_len, wrL_len, maxLen, intI])
 | ((with_reducible show callN _ _ _ _ _ _ (.yld _) _ _ _); (refine callN_y (by simp only [lkL, if_true]; exact rfl) ?_ (by simp) ?_ ?_ (fun K hK => ?_)); (focus (exact True.intro)); (focus (simp [ltAll])); (focus ((simp [lsF]; done))); simp only [zipPut, gf, if_true, Nat.reduceAdd])
 | ((with_reducible refine hK _ ?_); clear hK K)
 | (with_reducible apply_assumption -exfalso only [*]))
  all_goals ((have e0 : r = 0 := (by omega); subst e0; have hl := rdI_e hz; subst hl; exact ⟨fun c hc9 => (by have := rowI_iv _ c hc9; cases c <;> trivial), rfl, fun i o hi ho => row_zL _ i o (by simpa [wrL, cnt] using hi) ho⟩))
theorem clo_p (Y : ChS) (hY : Y.Ok) (s : Nat) (hin : inS Y.x.m s) : CallsP Tryz.prog 49 [.one (.ptr 6 (chC Y)), .one (.g (.int .u64 ((s : Int))))] (.t (.one (.g (.int .u64 ((cloN Y.P s : Nat)))))) := by
  have hm := hY.m
  have hs := inS_lt hm hin
  have mk0 : True := trivial
  have mk1 : True := trivial
  have hpr : True := trivial
  have hor : True := trivial
  refine CallsP_of Tryz.func49 rfl (by rw [Tryz.ntmps49]; simp) ?_
  simp only [Tryz.ntmps49, zM, PT.tv, argEnv, Nat.zero_add, Nat.reduceAdd]
  repeat' (first
 | ((with_reducible show AW _ _ _ _); first
 | (with_reducible first | refine aS (fun K hK => ?_) | refine aI ?_ | refine aX ?_ | refine aT ?_ | refine aC ?_ | refine aB ?_)
 | ((refine AW_rangeFuncH (k := 110) rfl Tryz.func110 rfl fnok_110 (by rw [Tryz.ntmps110]; simp) ?_ ?_ (fun l hlne A B hA hB => ?_)); (focus (simp (maxSteps := 2000000) only [go_sem, reduceIte, reduceCtorEq, xA, xL, xD, xE, xM, xS, xB, Tryz.f49, Tryz.f110, Tryz.f81, chC0, chC1, chC2, chC3, chC4, chC5, uF0, stF0, stF1, ptF0, hpr, hor, orL_0]; try exact True.intro)); (focus (simp (maxSteps := 2000000) only [go_sem, reduceIte, reduceCtorEq, xA, xL, xD, xE, xM, xS, xB, Tryz.f49, Tryz.f110, Tryz.f81, chC0, chC1, chC2, chC3, chC4, chC5, uF0, stF0, stF1, ptF0, hpr, hor, orL_0]; try exact True.intro)); simp only [Tryz.ntmps110, List.map_cons, List.map_nil, LV.tv, argEnv, yV, Nat.zero_add, Nat.reduceAdd]; clear hlne)
 | (with_reducible refine AW_eq (by assumption) ?_)
 | (first
 | (with_reducible first | refine aP (ops := #[⟨some 2, _, _, _, _, _⟩, _]) 0 [0,1,10] ?_ | refine aP (ops := #[⟨some 4, _, _, _, _, _⟩, _]) 0 [0,1] ?_ | refine aP (ops := #[⟨some 1, _, _, _, _, _⟩, _]) 0 [0] ?_ | refine aP (ops := #[⟨some 7, _, _, _, _, _⟩, _, _]) 1 [1,2,10] ?_ | refine aP (ops := #[⟨some 5, _, _, _, _, _⟩, _]) 1 [0,3] ?_ | refine aP (ops := #[⟨some 3, _, _, _, _, _⟩, _]) 1 [1] ?_ | refine aP (ops := #[⟨some 8, _, _, _, _, _⟩, _]) 2 [1,2,5,10] ?_ | refine aP (ops := #[⟨some 7, _, _, _, _, _⟩, _, _, _, _]) 2 [0,3] ?_ | refine aP (ops := #[⟨some 6, _, _, _, _, _⟩]) 3 [2,5,10] ?_ | refine aP (ops := #[⟨some 11, _, _, _, _, _⟩, _, _, _, _]) 3 [0,3] ?_)
 | ((with_reducible refine aR (c := Code.region 4 _ true) [2,5,6,10] ?_); (with_reducible refine aD ?_ ?_ ?_ ?_); (focus kernel_rfl); (focus kernel_rfl); (focus kernel_rfl))
 | (with_reducible refine aP 5 [5] ?_))
 | ((with_reducible show AW _ (Code.loop _) _ _); first
 | ((with_reducible refine aL (c := (Code.seq (Code.seq (Code.region 1 _ _) _) _)) (ι := List Nat × Nat) [0] (fun ⟨l, r⟩ => [(3, .t (.one (.iv (.g (.int .u64 (r : Int))))))]) (fun ⟨l, r⟩ => [(1, [.iv (.g (.int .u64 (orL Y.P s l : Nat)))])]) (fun ⟨l, r⟩ => rdI s (l, r)) (fun ⟨l, r⟩ => r) ([], s) ?lg1 ?l11 ?l21 ?li1 ?lr1); (case' lg1 => rintro ⟨l, r⟩ _); (case' li1 => try (exact rdI_0 hs)); (case' lr1 => rintro ⟨l, r⟩ hz KR hR1; simp only [keepE, hupd, hset, lk, if_true, if_false, xE, reduceIte, zN, chC0, chC1, chC2, chC3, chC4, chC5, uF0, stF0, stF1, ptF0, hpr, hor, orL_0]))))
 | ((first | (with_reducible refine And.intro ?_ ?_) | (with_reducible refine Need.mk ?_)); focus (first | exact True.intro | omega))
 | (with_reducible refine retK_n ?_)
 | ((with_reducible show condN _ _ _ _ _ _); first
 | ((with_reducible refine condN_t ?_ ?_) <;> (intro hc; (try simp only [zB, zC, reduceCtorEq] at hc); ((try (clear mk0 hpr; have h0 : 0 < r := (by omega); have hz2 := rdI_s hz h0; have hr := hz.2; have hcz := rdI_cz hin hz h0; have hpr := u_predW h0 hr; have hle := rdI_le hz)); (try (clear mk1 hor; have hol := orL_lt (P := Y.P) (l := l) hs (fun i hi => hY.P i (rdI_mem hin hz i hi)); have hor := orL_or hol (hY.P _ hcz)))); (try (exfalso; contradiction)))))
 | ((with_reducible refine And.intro ?_ ?_); focus ((with_reducible show chkR _ _ _ = true); kernel_rfl))
 | ((with_reducible show callN _ _ _ _ _ _ _ _ _ _); first
 | (refine callN_q (k := 111) fnok_111 (tz_p r hz.2) ?_ ?_)
 | ((refine callN_i (k := 81) Tryz.func81 rfl fnok_81 (by rw [Tryz.ntmps81]; simp) ?_ ?_ (fun K hK => ?_)); (focus (exact True.intro)); (focus ((simp [lsF]; done))); simp only [Tryz.ntmps81, List.map_cons, List.map_nil, List.nil_append, List.cons_append, List.append_nil, LV.tv, argEnv, Nat.zero_add, Nat.reduceAdd]))
 | ((with_reducible refine hR1 _ (l ++ [cz r], r &&& (r - 1)) ?_); (try clear hR1 KR))
 | ((with_reducible refine Told.mk ?_); simp only [go_sem, reduceIte, reduceCtorEq, xA, xL, xD, xE, xM, xS, xB, chC0, chC1, chC2, chC3, chC4, chC5, uF0, stF0, stF1, ptF0, hpr, hor, orL_0] <;> ((((try simp (disch := omega) only [seaWrap, Int.natCast_add, Int.cast_ofNat_Int, and_true, true_and, and_self]); (repeat' (omega)); done))))
 | ((fail_if_success (with_reducible show AW _ _ _ _)); simp (maxSteps := 2000000) only [go_sem, reduceIte, reduceCtorEq, xA, xL, xD, xE, xM, xS, xB, Tryz.f49, Tryz.f110, Tryz.f81, chC0, chC1, chC2, chC3, chC4, chC5, uF0, stF0, stF1, ptF0, hpr, hor, orL_0])
 | ((with_reducible show callN _ _ _ _ _ _ (.yld _) _ _ _); (refine callN_y (by simp only [lkL, if_true]; exact rfl) ?_ (by simp) ?_ ?_ (fun K hK => ?_)); (focus (exact True.intro)); (focus (simp [ltAll])); (focus ((simp [lsF]; done))); simp only [zipPut, gf, if_true, Nat.reduceAdd])
 | ((with_reducible refine hK _ ?_); clear hK K)
 | (with_reducible apply_assumption -exfalso only [*]))
  all_goals ((have e0 : r = 0 := (by omega); subst e0; have hl := rdI_e hz; subst hl; exact rfl))
theorem read_p (Y : ChS) (hY : Y.Ok) (q : Nat) (a : Nat → Int) (hq : q ≤ 9223372036854775807) : CallsP Tryz.prog 75 [.one (.ptr 6 (chC Y)), .one (.lst 1 q (intI a))] (.tup [.one (.g (.int .u64 ((rdV Y.x.S Y.x.m q a : Nat)))), .one (.g (.bool (setB Y.x.S Y.x.m q a)))]) := by
  have hm := hY.m
  have mk0 : True := trivial
  have mk1 : True := trivial
  have hix : True := trivial
  have hsh : True := trivial
  have hor : True := trivial
  refine CallsP_of Tryz.func75 rfl (by rw [Tryz.ntmps75]; simp) ?_
  simp only [Tryz.ntmps75, zM, PT.tv, argEnv, Nat.zero_add, Nat.reduceAdd]
  repeat' (first
 | (refine callK_shl rfl rfl (by omega) ?_)
 | ((with_reducible show AW _ _ _ _); first
 | (with_reducible first | refine aS (fun K hK => ?_) | refine aI ?_ | refine aX ?_ | refine aT ?_ | refine aC ?_ | refine aB ?_)
 | (first
 | (with_reducible first | refine aP 0 [0,1] ?_ | refine aP 1 [0,1] ?_ | refine aP 2 [0,1,6] ?_ | refine aP 3 [0,1,6,7] ?_ | refine aP 4 [0,6,7,11,12,13] ?_ | refine aP 5 [0,6,7,11,12,13] ?_ | refine aP 6 [0,6,7,9,11,12,13] ?_ | refine aP 7 [0,6,7,9,10,11,12,13] ?_ | refine aP 8 [] ?_ | refine aP 9 [0,6,9,10,11,12,13] ?_ | refine aP 10 [0,6,9,11,12,13] ?_ | refine aP 11 [0,6,7,11,12,13] ?_ | refine aP 12 [6] ?_))
 | ((with_reducible show AW _ (Code.loop _) _ _); first
 | ((with_reducible refine aL (c := (Code.seq (Code.region 4 _ _) _)) (ι := Nat) [0,11,12] (fun j => [(6, .t (.one (.iv (.g (.int .u64 (rdN Y.x.S Y.x.m a j : Nat)))))), (7, iA .i64 (lsA a j)), (13, iA .i64 (j : Int))]) (fun j => []) (fun j => j ≤ q ∧ (∀ j', j' < j → setP Y.x.S Y.x.m a j')) (fun j => q - j) 0 ?lg4 ?l14 ?l24 ?li4 ?lr4); (case' lg4 => rintro j _); (case' li4 => try (exact ⟨Nat.zero_le _, fun i hi => absurd hi (Nat.not_lt_zero _)⟩)); (case' lr4 => rintro j ⟨hj, haj⟩ KR hR4; simp only [keepE, hupd, hset, lk, if_true, if_false, xE, reduceIte, zN, chC0, chC1, chC2, chC3, chC4, chC5, uF0, stF0, stF1, ptF0, hix, hsh, hor, lsA_s, lsA_0, rdN_0, n00]))))
 | ((first | (with_reducible refine And.intro ?_ ?_) | (with_reducible refine Need.mk ?_)); focus (first | exact True.intro | omega | (simp; done)))
 | (with_reducible refine retK_n ?_)
 | ((with_reducible show condN _ _ _ _ _ _); first
 | ((with_reducible refine condN_t ?_ ?_) <;> (intro hc; (try simp only [zB, zC, reduceCtorEq] at hc); ((try (clear mk0 hix hsh hor; rcases ixV_cs Y.x.S Y.x.m (a j) with ⟨hix, hlt⟩ | ⟨hix, hlt⟩; all_goals (first | (have hsh := u_shl6 (k := ixM Y.x.S Y.x.m (a j)) (by omega); have hor := rdN_or hm haj hlt) | (have hsh : True := trivial; have hor : True := trivial))))); (try (exfalso; omega)))))
 | ((with_reducible show callN _ _ _ _ _ _ _ _ _ _); first
 | (refine callN_q (k := 66) fnok_66 (idx_p Y hY (a j)) ?_ ?_))
 | ((with_reducible refine hR4 _ (j + 1) ?_); (try clear hR4 KR))
 | ((with_reducible refine Told.mk ?_); simp only [go_sem, reduceIte, reduceCtorEq, xA, xL, xD, xE, xM, xS, xB, chC0, chC1, chC2, chC3, chC4, chC5, uF0, stF0, stF1, ptF0, intI, hix, hsh, hor, lsA_s, lsA_0, rdN_0, n00] <;> ((((try simp (disch := omega) only [seaWrap, Int.natCast_add, Int.cast_ofNat_Int, and_true, true_and, and_self]); (repeat' (first | omega | (with_reducible refine And.intro ?_ ?_) | ((exact all_succ (by assumption) ⟨by assumption, by omega⟩)))); done))))
 | ((fail_if_success (with_reducible show AW _ _ _ _)); simp (maxSteps := 2000000) only [go_sem, reduceIte, reduceCtorEq, xA, xL, xD, xE, xM, xS, xB, Tryz.f75, chC0, chC1, chC2, chC3, chC4, chC5, uF0, stF0, stF1, ptF0, intI, hix, hsh, hor, lsA_s, lsA_0, rdN_0, n00])
 | ((with_reducible refine hK _ ?_); clear hK K)
 | (with_reducible apply_assumption -exfalso only [*]))
  all_goals (first | exact set_f (by omega) (set_f1 hlt) | exact set_f (by omega) (set_f2 (by omega)) | (have e := set_t (by omega) hj haj; rw [← e.1]; exact ⟨rfl, e.2⟩))
end Go.Proofs.YtmnejmpjmniiiaaGreatDoor
namespace Go.Proofs.YtmnejmpjmniiiaaGreatDoor
open Go.RowKit Go.Sea
open Nat renaming reduceAdd → xA, reduceLT → xL, reduceLeDiff → xD, reduceEqDiff → xE, reduceMul → xM, reduceSub → xS, reduceBEq → xB
theorem fnok_34 : fnOk Tryz.prog 34 = true := by kernel_rfl
theorem fnok_49 : fnOk Tryz.prog 49 = true := by kernel_rfl
theorem fnok_82 : fnOk Tryz.prog 82 = true := by kernel_rfl
theorem of_73_0 : offOf Tryz.prog 73 0 = some 0 := by kernel_rfl
theorem of_73_2 : offOf Tryz.prog 73 2 = some 2 := by kernel_rfl
theorem of_73_4 : offOf Tryz.prog 73 4 = some 4 := by kernel_rfl
theorem ty_22 : tyD Tryz.prog 22 = some (false, 1) := by kernel_rfl
theorem ty_24 : tyD Tryz.prog 24 = some (false, 1) := by kernel_rfl
theorem zc_22 : zeroC Tryz.prog 22 = some [.iv (.g (.slice none 0 0))] := by kernel_rfl
attribute [go_sem] fnok_34 fnok_49 fnok_82 of_73_0 of_73_2 of_73_4 ty_22 ty_24 zc_22
theorem CallsN_H {P : Program} {k : FuncId} {ts : List TV} {cs : List CV} {r : Nat → AV} (h : CallsN P k ts cs r) {H : List (Option (List CV))} {i : Nat} (hi : hget H i = none) : CallsH P k ts H (r i) (hset H i cs) := h H i hi
theorem ipC_lenf (c : Nat → IV) : ∀ n k, (ipCells c n k).length = n
  | 0, _ => rfl
  | n + 1, k => by simp [ipCells, ipC_lenf c n (k + 1)]
theorem ipC_getf (c : Nat → IV) : ∀ n k o, o < n → (ipCells c n k)[o]? = some (.iv (c (k + o)))
  | n + 1, k, 0, _ => by simp [ipCells]
  | n + 1, k, o + 1, h => by
    simp only [ipCells, List.getElem?_cons_succ]
    rw [ipC_getf c n (k + 1) o (by omega), show k + 1 + o = k + (o + 1) by omega]
theorem lstC_getf (f : Nat → Nat → IV) (E : Nat) : ∀ n k i o, i < n → o < E → (lstC f E n k)[i * E + o]? = some (.iv (f (k + i) o))
  | n + 1, k, 0, o, _, ho => by
    simp only [lstC, Nat.zero_mul, Nat.zero_add]
    rw [List.getElem?_append_left (by rw [ipC_lenf]; exact ho), ipC_getf _ _ _ _ ho, Nat.zero_add]; rfl
  | n + 1, k, i + 1, o, h, ho => by
    simp only [lstC]
    rw [show (i + 1) * E + o = E + (i * E + o) by rw [Nat.add_mul]; omega, List.getElem?_append_right (by rw [ipC_lenf]; omega), ipC_lenf, Nat.add_sub_cancel_left, lstC_getf f E n (k + 1) i o (by omega) ho, show k + 1 + i = k + (i + 1) by omega]
theorem ipC_ivf (f : Nat → IV) : ∀ (m k : Nat) (c : CV), c ∈ ipCells f m k → isIv c := by
  intro m
  induction m with
  | zero => intro k c h; simp [ipCells] at h
  | succ m ih =>
    intro k c h
    simp only [ipCells, List.mem_cons] at h
    rcases h with rfl | h
    · trivial
    · exact ih _ _ h
theorem lstC_ivf (f : Nat → Nat → IV) (E : Nat) : ∀ (n k : Nat) (c : CV), c ∈ lstC f E n k → isIv c := by
  intro n
  induction n with
  | zero => intro k c h; simp [lstC] at h
  | succ n ih =>
    intro k c h
    rcases List.mem_append.1 h with h | h
    · exact ipC_ivf _ _ _ _ h
    · exact ih _ _ h
theorem lstC_eqf (f : Nat → Nat → IV) (E n : Nat) (i o : Nat) (hi : i < n) (ho : o < E) : (civ ((lstC f E n 0).getD (i * E + o) .any)).eqv (f i o) := by
  rw [List.getD, lstC_getf _ _ _ _ _ _ hi ho, Nat.zero_add]
  exact IV.eqv_refl _
structure FlS where
  n : Nat
  f : Nat → Feat
structure FlS.Ok (X : FlS) : Prop where
  n : X.n ≤ 300
  f : ∀ i, i < X.n → (X.f i).Ok
def apS (X : FlS) (p : PtS) : FlS := ⟨apN X.n X.f p.k p.o, apF X.n X.f p.k p.o⟩
def apX (X : FlS) (p : PtS) : Int := apE X.n X.f p.k p.o
def runF (O : Nat → PtS) (X : FlS) (l : List Nat) : FlS := l.foldl (fun Z i => apS Z (O i)) X
def runB (O : Nat → PtS) : FlS → List Nat → Bool
  | _, [] => true
  | X, i :: l => decide (apX X (O i) = 0) && runB O (apS X (O i)) l
theorem runF_0 (O : Nat → PtS) (X : FlS) : runF O X [] = X := rfl
theorem runF_s (O : Nat → PtS) (X : FlS) (l : List Nat) (i : Nat) : runF O X (l ++ [i]) = apS (runF O X l) (O i) := by simp [runF]
theorem runB_s (O : Nat → PtS) : ∀ (X : FlS) (l : List Nat) (i : Nat), runB O X (l ++ [i]) = (runB O X l && decide (apX (runF O X l) (O i) = 0))
  | X, [], i => by show (decide _ && true) = (true && decide _); rw [Bool.and_true, Bool.true_and]; rfl
  | X, j :: l, i => by
    show (decide (apX X (O j) = 0) && runB O (apS X (O j)) (l ++ [i])) = ((decide (apX X (O j) = 0) && runB O (apS X (O j)) l) && decide (apX (runF O (apS X (O j)) l) (O i) = 0))
    rw [runB_s O (apS X (O j)) l i, Bool.and_assoc]
theorem runB_app (O : Nat → PtS) : ∀ (X : FlS) (l m : List Nat), runB O X (l ++ m) = (runB O X l && runB O (runF O X l) m)
  | X, [], m => by simp [runB, runF]
  | X, j :: l, m => by
    show (decide (apX X (O j) = 0) && runB O (apS X (O j)) (l ++ m)) = ((decide (apX X (O j) = 0) && runB O (apS X (O j)) l) && runB O (runF O (apS X (O j)) l) m)
    rw [runB_app O (apS X (O j)) l m, Bool.and_assoc]
theorem runB_t {O : Nat → PtS} {X : FlS} {l : List Nat} {i : Nat} (h : runB O X l = true) (h2 : apE (runF O X l).n (runF O X l).f (O i).k (O i).o = 0) : runB O X (l ++ [i]) = true := by rw [runB_s, h]; exact decide_eq_true h2
theorem ap_eq0 {n : Nat} {f : Nat → Feat} {k : Nat} {o : Nat → OpS} (h : apE n f k o = 0) : apV n f k o = true ∧ ∀ j, j < k → (doL (runL (LF f n) o j) (o j)).1 = 0 := by
  unfold apE at h
  split at h
  · rename_i hv
    refine ⟨hv, fun j hj => ?_⟩
    split at h
    · rename_i hlt
      have hb : apJ n f k o < k := hlt
      exact absurd h (by
        have key : ∀ k, badI (LF f n) o k < k → (doL (runL (LF f n) o (badI (LF f n) o k)) (o (badI (LF f n) o k))).1 ≠ 0 := by
          intro k
          induction k with
          | zero => intro h; omega
          | succ k ih =>
            intro hk
            unfold badI at ih hk ⊢
            simp only [fstB] at hk ⊢
            split
            · rename_i g; exact ih g
            · rename_i g
              rw [if_neg g] at hk
              split
              · rename_i g2; exact of_decide_eq_true g2
              · rename_i g2; rw [if_neg g2] at hk; omega
        exact key k hb)
    · rename_i hge
      by_cases e : (doL (runL (LF f n) o j) (o j)).1 = 0
      · exact e
      · exfalso
        have key : ∀ k, j < k → badI (LF f n) o k < k := by
          intro k
          induction k with
          | zero => intro h; omega
          | succ k ih =>
            intro hk
            unfold badI at ih ⊢
            simp only [fstB]
            split
            · rename_i g; omega
            · rename_i g
              split
              · omega
              · rename_i g2
                rcases (by omega : j < k ∨ j = k) with q | rfl
                · exact absurd (ih q) g
                · exact absurd (decide_eq_true e) g2
        exact hge (key k hj)
  · exact absurd h (by decide)
theorem apS_ok {X : FlS} {p : PtS} (h : apX X p = 0) : (apS X p).Ok := by
  obtain ⟨hv, hd⟩ := ap_eq0 h
  have hv2 : feaB X.n X.f = true ∧ opsB p.k p.o = true := by unfold apV at hv; simpa using hv
  have hg := good_run (good_LF hv2.1) (o := p.o) (k := p.k) (of_decide_eq_true hv2.2).2 p.k (Nat.le_refl _)
  have hn := (ap_ok hv2.1 hv2.2 (i := p.k) (Int.le_refl _) hd).1
  refine ⟨?_, fun i hi => ?_⟩
  · show apN X.n X.f p.k p.o ≤ 300
    rw [← hn]; exact hg.n
  · have hi : i < apN X.n X.f p.k p.o := hi
    rw [← hn] at hi
    exact feat_ok (hg.f _ (by show (runL (LF X.f X.n) p.o p.k).getD i feat0 ∈ _; rw [List.getD_eq_getElem?_getD, List.getElem?_eq_getElem hi]; simp))
theorem runF_ok {O : Nat → PtS} : ∀ {X : FlS} {l : List Nat}, X.Ok → runB O X l = true → (runF O X l).Ok
  | X, [], h, _ => h
  | X, i :: l, h, hb => by
    have hb : (decide (apX X (O i) = 0) && runB O (apS X (O i)) l) = true := hb
    rw [Bool.and_eq_true] at hb
    exact runF_ok (l := l) (apS_ok (of_decide_eq_true hb.1)) hb.2
def fl0 (x : CaS) : FlS := ⟨x.n, x.f⟩
theorem fl0_ok {Y : ChS} (h : Y.Ok) : (fl0 Y.x).Ok := ⟨(of_decide_eq_true h.v).1, h.x.f⟩
def foeB (F : Nat → Nat) (s : Nat) : Bool := decide (∀ i, i ∈ bl s → F i &&& s = 0)
def behB (Y : ChS) (s : Nat) : Bool := decide (cloN Y.P s = s) && foeB Y.F s && runB Y.x.O (fl0 Y.x) (bl s)
def behN (Y : ChS) (s : Nat) : Nat := if behB Y s = true then (runF Y.x.O (fl0 Y.x) (bl s)).n else 0
def behF (Y : ChS) (s : Nat) : Nat → Feat := (runF Y.x.O (fl0 Y.x) (bl s)).f
theorem beh_f {Y : ChS} {s : Nat} (h : behB Y s = false) : behN Y s = 0 ∧ false = behB Y s := by unfold behN; rw [h]; exact ⟨rfl, rfl⟩
theorem beh_1 {Y : ChS} {s : Nat} (h : ((cloN Y.P s : Nat) : Int) ≠ (s : Int)) : behB Y s = false := by
  unfold behB; rw [decide_eq_false (fun e => h (by rw [e]))]; rfl
theorem beh_2 {Y : ChS} {s i : Nat} (hi : i ∈ bl s) (h : ((Y.F i &&& s : Nat) : Int) ≠ 0) : behB Y s = false := by
  have e : foeB Y.F s = false := decide_eq_false fun g => h (by rw [g i hi]; rfl)
  unfold behB; rw [e]; simp
theorem beh_3 {Y : ChS} {s i : Nat} {l r : List Nat} (hl : l ++ i :: r = bl s) (h : apX (runF Y.x.O (fl0 Y.x) l) (Y.x.O i) ≠ 0) : behB Y s = false := by
  have e : runB Y.x.O (fl0 Y.x) (bl s) = false := by
    rw [← hl, runB_app]
    show (_ && (decide _ && _)) = false
    rw [decide_eq_false h]; simp
  unfold behB; rw [e]; simp
theorem beh_t {Y : ChS} {s : Nat} (h1 : ((cloN Y.P s : Nat) : Int) = (s : Int)) (h2 : ∀ i, i ∈ bl s → Y.F i &&& s = 0) (h3 : runB Y.x.O (fl0 Y.x) (bl s) = true) : behB Y s = true := by
  unfold behB; rw [decide_eq_true (by omega), h3, show foeB Y.F s = true from decide_eq_true h2]; rfl
theorem all_snoc {p : Nat → Prop} {l : List Nat} {i : Nat} (h : ∀ j, j ∈ l → p j) (hi : p i) : ∀ j, j ∈ l ++ [i] → p j := fun j hj => by
  rcases List.mem_append.1 hj with g | g
  · exact h j g
  · rw [List.mem_singleton.1 g]; exact hi
theorem rdI_in {s r : Nat} {l : List Nat} (h : rdI s (l, r)) (h0 : 0 < r) : l ++ cz r :: bl (r &&& (r - 1)) = bl s := by
  rw [← h.1]; simp only
  rw [(bl_all r h.2 h0).1]
theorem rdI_in2 {s r : Nat} {l : List Nat} (h : rdI s (l, r)) (h0 : 0 < r) : cz r ∈ bl s := by rw [← rdI_in h h0]; simp
theorem u_andF {a s : Nat} (h : a < 1024) (hs : s < 1024) : bits .and .u64 (a : Int) (s : Int) = ((a &&& s : Nat) : Int) := u_and (by omega) (by omega)
set_option maxRecDepth 100000 in
set_option maxHeartbeats 4000000 in
theorem beh_p (Y : ChS) (hY : Y.Ok) (s : Nat) (hin : inS Y.x.m s) : CallsP Tryz.prog 48 [.one (.ptr 6 (chC Y)), .one (.g (.int .u64 ((s : Int))))] (.tup [.one (.lst 9 (behN Y s) (featF (behF Y s))), .one (.g (.bool (behB Y s)))]) := by
  have hm := hY.m
  have hs := inS_lt hm hin
  have hn3 := (of_decide_eq_true hY.v).1
  have hmo := hY.mo
  have mk0 : True := trivial
  have mk1 : True := trivial
  have mk2 : True := trivial
  have hpr : True := trivial
  have hfa : True := trivial
  refine CallsP_of Tryz.func48 rfl (by rw [Tryz.ntmps48]; simp) ?_
  simp only [Tryz.ntmps48, zM, PT.tv, argEnv, Nat.zero_add, Nat.reduceAdd]
  repeat' (first
 | ((with_reducible refine Need.mk ?_); exact lstC_ivf _ _ _ _)
 | ((with_reducible show AW _ _ _ _); first
 | (with_reducible first | refine aS (fun K hK => ?_) | refine aI ?_ | refine aX ?_ | refine aT ?_ | refine aC ?_ | refine aB ?_)
 | ((refine AW_rangeFuncH (k := 110) rfl Tryz.func110 rfl fnok_110 (by rw [Tryz.ntmps110]; simp) ?_ ?_ (fun l hlne A B hA hB => ?_)); (focus (simp (maxSteps := 2000000) only [go_sem, reduceIte, reduceCtorEq, xA, xL, xD, xE, xM, xS, xB, Tryz.f48, Tryz.f110, Tryz.f81, chC0, chC1, chC2, chC3, chC4, chC5, uF0, stF0, stF1, ptF0, hpr, hfa, runF_0]; try exact True.intro)); (focus (simp (maxSteps := 2000000) only [go_sem, reduceIte, reduceCtorEq, xA, xL, xD, xE, xM, xS, xB, Tryz.f48, Tryz.f110, Tryz.f81, chC0, chC1, chC2, chC3, chC4, chC5, uF0, stF0, stF1, ptF0, hpr, hfa, runF_0]; try exact True.intro)); simp only [Tryz.ntmps110, List.map_cons, List.map_nil, LV.tv, argEnv, yV, Nat.zero_add, Nat.reduceAdd]; clear hlne)
 | (with_reducible refine AW_eq (by assumption) ?_)
 | (first
 | (with_reducible first | refine aP (ops := #[⟨some 2, _, _, _, _, _⟩, _, _, _]) 0 [0,1,19,37] ?_ | refine aP (ops := #[⟨some 4, _, _, _, _, _⟩, _]) 0 [0,1] ?_ | refine aP (ops := #[⟨some 1, _, _, _, _, _⟩, _]) 0 [0] ?_ | refine aP (ops := #[⟨some 5, _, _, _, _, _⟩, _]) 1 [0,3] ?_ | refine aP (ops := #[⟨some 3, _, _, _, _, _⟩, _]) 1 [1] ?_)
 | ((with_reducible refine aR (c := Code.region 1 _ true) [2,3,4,5,19,37] ?_); (with_reducible refine aD ?_ ?_ ?_ ?_); (focus kernel_rfl); (focus kernel_rfl); (focus kernel_rfl))
 | (with_reducible first | refine aP (ops := #[⟨none, _, _, _, _, _⟩, _]) 2 [4,5] ?_ | refine aP (ops := #[⟨some 7, _, _, _, _, _⟩, _, _, _, _]) 2 [0,3] ?_ | refine aP (ops := #[⟨some 17, _, _, _, _, _⟩, _]) 3 [2,3,4,5,19,37] ?_ | refine aP (ops := #[⟨some 11, _, _, _, _, _⟩, _, _, _, _]) 3 [0,3] ?_ | refine aP 4 [2,3,4,5,19,37] ?_)
 | ((with_reducible refine aR (c := Code.region 5 _ true) [2,3,4,5,6,19,37] ?_); (with_reducible refine aD ?_ ?_ ?_ ?_); (focus kernel_rfl); (focus kernel_rfl); (focus kernel_rfl))
 | (with_reducible first | refine aP 6 [4,5] ?_ | refine aP 7 [2,3,4,5,37] ?_ | refine AW_frz (c := Code.region 8 _ false) [5] ?_ (aP 8 [2,3,4,5,7,37] ?_) | refine aP 9 [2,4,5,7,37] ?_)
 | ((with_reducible refine aR (c := Code.region 10 _ true) [2,4,5,7,8,37] ?_); (with_reducible refine aD ?_ ?_ ?_ ?_); (focus kernel_rfl); (focus kernel_rfl); (focus kernel_rfl))
 | (with_reducible first | refine aP 11 [2,4,5,7,9,11,37] ?_ | refine aP 12 [4,5] ?_ | refine aP 13 [2,4,5,7,9,37] ?_ | refine aP 14 [4,5,7] ?_))
 | ((with_reducible show AW _ (Code.loop _) _ _); first
 | ((have hO := hfoe; with_reducible refine aL (c := (Code.seq (Code.seq (Code.region 1 _ _) _) _)) (ι := List Nat × Nat) [0] (fun ⟨l2, r2⟩ => [(3, .t (.one (.iv (.g (.int .u64 (r2 : Int))))))]) (fun ⟨l2, r2⟩ => [(6, [.iv (.lst 9 (runF Y.x.O (fl0 Y.x) l2).n (featF (runF Y.x.O (fl0 Y.x) l2).f))])]) (fun ⟨l2, r2⟩ => rdI s (l2, r2) ∧ runB Y.x.O (fl0 Y.x) l2 = true) (fun ⟨l2, r2⟩ => r2) ([], s) ?lg1b ?l11b ?l21b ?li1b ?lr1b); (case' lg1b => rintro ⟨l2, r2⟩ _); (case' li1b => try (exact ⟨rdI_0 hs, rfl⟩)); (case' lr1b => rintro ⟨l2, r2⟩ hz KR hR1b; simp only [keepE, hupd, hset, lk, if_true, if_false, xE, reduceIte, zN, chC0, chC1, chC2, chC3, chC4, chC5, uF0, stF0, stF1, ptF0, hpr, hfa, runF_0]))
 | ((with_reducible refine aL (c := (Code.seq (Code.seq (Code.region 1 _ _) _) _)) (ι := List Nat × Nat) [0] (fun ⟨l, r⟩ => [(3, .t (.one (.iv (.g (.int .u64 (r : Int))))))]) (fun ⟨l, r⟩ => []) (fun ⟨l, r⟩ => rdI s (l, r) ∧ ∀ i, i ∈ l → Y.F i &&& s = 0) (fun ⟨l, r⟩ => r) ([], s) ?lg1 ?l11 ?l21 ?li1 ?lr1); (case' lg1 => rintro ⟨l, r⟩ _); (case' li1 => try (exact ⟨rdI_0 hs, fun _ h => absurd h List.not_mem_nil⟩)); (case' lr1 => rintro ⟨l, r⟩ hz KR hR1; simp only [keepE, hupd, hset, lk, if_true, if_false, xE, reduceIte, zN, chC0, chC1, chC2, chC3, chC4, chC5, uF0, stF0, stF1, ptF0, hpr, hfa, runF_0]))))
 | ((first | (with_reducible refine And.intro ?_ ?_) | (with_reducible refine Need.mk ?_)); focus (first | exact True.intro | omega))
 | (with_reducible refine retK_n ?_)
 | ((with_reducible show condN _ _ _ _ _ _); first
 | ((with_reducible refine condN_t ?_ ?_) <;> (intro hc; (try simp only [zB, zC, reduceCtorEq] at hc); ((try (clear mk0 hpr hfa; have h0 : 0 < r := (by omega); have hz2 := rdI_s hz.1 h0; have hr := hz.1.2; have hcz := rdI_cz hin hz.1 h0; have hpr := u_predW h0 hr; have hfa := u_andF (hY.F _ hcz) hs)); (try (clear mk1; have e0 : r = 0 := (by omega); subst e0; have hl := rdI_e hz.1; subst hl; have hfoe := hz.2; clear hz)); (try (clear mk2 hpr; have h0 : 0 < r2 := (by omega); have hz2 := rdI_s hz.1 h0; have hr := hz.1.2; have hcz := rdI_cz hin hz.1 h0; have hpr := u_predW h0 hr; have hxo := runF_ok (fl0_ok hY) hz.2; have hxn := hxo.n))); (try (exfalso; contradiction)))))
 | ((with_reducible refine And.intro ?_ ?_); focus ((with_reducible show chkR _ _ _ = true); kernel_rfl))
 | ((with_reducible show callN _ _ _ _ _ _ _ _ _ _); first
 | (refine callN_q (k := 111) fnok_111 (tz_p r hz.1.2) ?_ ?_)
 | (refine callN_q (k := 111) fnok_111 (tz_p r2 hz.1.2) ?_ ?_)
 | (refine callN_hpq (k := 82) fnok_82 (CallsN_H (clone_nF Y.x.n (featF Y.x.f) (by omega)) (i := 5) rfl) ?_ ?_)
 | ((refine callN_i (k := 81) Tryz.func81 rfl fnok_81 (by rw [Tryz.ntmps81]; simp) ?_ ?_ (fun K hK => ?_)); (focus (exact True.intro)); (focus ((simp [lsF]; done))); simp only [Tryz.ntmps81, List.map_cons, List.map_nil, List.nil_append, List.cons_append, List.append_nil, LV.tv, argEnv, Nat.zero_add, Nat.reduceAdd]))
 | ((with_reducible show callDN _ _ _ _ _ _ _ _ _ _ _ _ _); first
 | (refine callDN_q (k := 49) fnok_49 (clo_p Y hY s hin) ?_ ?_)
 | (refine callDN_q (k := 34) fnok_34 (Apply_p (runF Y.x.O (fl0 Y.x) l2).n (runF Y.x.O (fl0 Y.x) l2).f (Y.x.O (cz r2)).k (Y.x.O (cz r2)).o (by omega) hxo.f (hY.x.k _ (by omega)) (hY.x.o _ (by omega))) ?_ ?_))
 | ((with_reducible refine hR1b _ (l2 ++ [cz r2], r2 &&& (r2 - 1)) ?_); (try clear hR1b KR))
 | ((with_reducible refine hR1 _ (l ++ [cz r], r &&& (r - 1)) ?_); (try clear hR1 KR))
 | ((with_reducible refine Told.mk ?_); simp only [go_sem, reduceIte, reduceCtorEq, xA, xL, xD, xE, xM, xS, xB, chC0, chC1, chC2, chC3, chC4, chC5, uF0, stF0, stF1, ptF0, hpr, hfa, runF_0] <;> (first | (((try simp (disch := omega) only [seaWrap, Int.natCast_add, Int.cast_ofNat_Int, and_true, true_and, and_self]); (repeat' (first | omega | (with_reducible refine And.intro ?_ ?_) | ((exact hz2.1)) | ((exact runB_t hz.2 (by assumption))) | ((exact Or.inl (by rw [runF_s]; rfl))) | ((rw [if_pos (by rw [lstC_len]; omega)]; exact Or.inr ⟨rfl, rfl, fun i o hi ho => lstC_eqf _ _ _ _ _ hi ho⟩)))); done)) | (((try simp (disch := omega) only [seaWrap, Int.natCast_add, Int.cast_ofNat_Int, and_true, true_and, and_self]); (repeat' (first | omega | (with_reducible refine And.intro ?_ ?_) | ((exact hz2.1)) | ((exact all_snoc hz.2 (by omega))))); done))))
 | ((fail_if_success (with_reducible show AW _ _ _ _)); simp (maxSteps := 2000000) only [go_sem, reduceIte, reduceCtorEq, xA, xL, xD, xE, xM, xS, xB, Tryz.f48, Tryz.f110, Tryz.f81, chC0, chC1, chC2, chC3, chC4, chC5, uF0, stF0, stF1, ptF0, hpr, hfa, runF_0])
 | ((with_reducible show callN _ _ _ _ _ _ (.yld _) _ _ _); (refine callN_y (by simp only [lkL, if_true]; exact rfl) ?_ (by simp) ?_ ?_ (fun K hK => ?_)); (focus (exact True.intro)); (focus (simp [ltAll])); (focus ((simp [lsF]; done))); simp only [zipPut, gf, if_true, Nat.reduceAdd])
 | ((with_reducible refine hK _ ?_); clear hK K)
 | (with_reducible apply_assumption -exfalso only [*]))
  all_goals first
    | (have e := beh_f (Y := Y) (s := s) (beh_1 (by assumption)); rw [e.1]; exact ⟨rfl, e.2⟩)
    | exact beh_f (beh_2 (rdI_in2 hz.1 h0) (by assumption))
    | exact beh_f (beh_3 (rdI_in hz.1 h0) (by assumption))
    | (have e0 : r2 = 0 := (by omega); subst e0; have hl := rdI_e hz.1; subst hl; have e := beh_t (Y := Y) (by assumption) hfoe hz.2; unfold behN behF; rw [e]; exact ⟨⟨rfl, fun i o _ _ => IV.eqv_refl _⟩, rfl⟩)
    | skip
end Go.Proofs.YtmnejmpjmniiiaaGreatDoor
namespace Go.Sea
open Go.RowKit
def LV.mv (a b : Nat) : LV → LV
  | .ptr k o => .ptr (if k = a then b else k) o
  | .mp k => .mp (if k = a then b else k)
  | c => c
def CV.mv (a b : Nat) : CV → CV
  | .slc k off n E => .slc (if k = a then b else k) off n E
  | .ptr k o => .ptr (if k = a then b else k) o
  | .fn f x y => .fn f (x.map (LV.mv a b)) (y.map (LV.mv a b))
  | .mp k => .mp (if k = a then b else k)
  | .it k => .it (if k = a then b else k)
  | .ml l => .ml (l.map fun x => (x.1, x.2.1, x.2.2.1.map (LV.mv a b), x.2.2.2.map (LV.mv a b)))
  | .mt j c p q => .mt (if j = a then b else j) c p q
  | c => c
def TV.mv (a b : Nat) : TV → TV
  | .one c => .one (c.mv a b)
  | .agg cs => .agg (cs.map (CV.mv a b))
def AV.mv (a b : Nat) : AV → AV
  | .t x => .t (x.mv a b)
  | .tup xs => .tup (xs.map (TV.mv a b))
  | .mb c x => .mb c (x.mv a b)
  | .any => .any
def mvE (a b : Nat) (e : List (Nat × AV)) : List (Nat × AV) := e.map fun p => (p.1, p.2.mv a b)
def mvG (a b : Nat) (g : List (Nat × List (Nat × AV))) : List (Nat × List (Nat × AV)) := g.map fun p => (p.1, mvE a b p.2)
def mvO (a b : Nat) (o : Option (List CV)) : Option (List CV) := o.map (List.map (CV.mv a b))
def mvH (a b : Nat) (h : List (Option (List CV))) : List (Option (List CV)) := hdel (h.map (mvO a b)) a ++ [mvO a b (hget h a)]
def AS.mv (a b : Nat) (s : AS) : AS := ⟨mvE a b s.env, mvH a b s.heap, s.N, mvG a b s.gh, s.lp⟩
theorem lk_mv (a b t : Nat) : ∀ env : List (Nat × AV), lk (mvE a b env) t = (lk env t).mv a b
  | [] => rfl
  | (k, v) :: r => by
    simp only [mvE, List.map_cons, lk]
    split
    · rfl
    · exact lk_mv a b t r
theorem gf_mv (a b f : Nat) : ∀ g : List (Nat × List (Nat × AV)), gf (mvG a b g) f = mvE a b (gf g f)
  | [] => rfl
  | (k, v) :: r => by
    simp only [mvG, List.map_cons, gf]
    split
    · rfl
    · exact gf_mv a b f r
theorem hdel_len : ∀ (h : List (Option (List CV))) (i : Nat), (hdel h i).length = h.length
  | [], i => by simp [hdel]
  | x :: h, 0 => by simp [hdel]
  | x :: h, i + 1 => by simp [hdel, hdel_len h i]
theorem hget_mv (a : Nat) (h : List (Option (List CV))) (k : Nat) : hget (mvH a h.length h) k = if k = h.length then mvO a h.length (hget h a) else if k = a then none else mvO a h.length (hget h k) := by
  unfold mvH
  have hl : (hdel (h.map (mvO a h.length)) a).length = h.length := by rw [hdel_len, List.length_map]
  by_cases hk : k = h.length
  · rw [if_pos hk]
    subst hk
    unfold hget
    rw [List.getElem?_append_right (by omega), hl]
    simp
  · rw [if_neg hk]
    have e1 : hget (hdel (h.map (mvO a h.length)) a ++ [mvO a h.length (hget h a)]) k = hget (hdel (h.map (mvO a h.length)) a) k := by
      unfold hget
      by_cases hlt : k < h.length
      · rw [List.getElem?_append_left (by omega)]
      · rw [List.getElem?_eq_none (by simp [hl]; omega), List.getElem?_eq_none (by omega)]
    rw [e1, hget_hdel]
    by_cases ha : k = a
    · rw [if_pos ha, if_pos ha]
    · rw [if_neg ha, if_neg ha]
      unfold hget mvO
      rw [List.getElem?_map]
      cases h[k]? <;> rfl
section
variable {w0 : World} {Z0 : Fr} {J J' : Nat → Option Nat} {Z : Nat → Prop} {s : AS} {ac : Act} {w : World} {a b : Nat}
theorem LRel.mv (hJ : ∀ k x, J k = some x → J' (if k = a then b else k) = some x) {v : Value} {l : LV} (h : LRel w J Z v l) : LRel w J' Z v (l.mv a b) := by
  cases l with
  | iv c => exact h
  | ptr k o => obtain ⟨x, e, hx, ho⟩ := h; exact ⟨x, e, hJ k x hx, ho⟩
  | mp k => obtain ⟨x, e, hx⟩ := h; exact ⟨x, e, hJ k x hx⟩
theorem CRel.mv (hJ : ∀ k x, J k = some x → J' (if k = a then b else k) = some x) {v : Value} {c : CV} (h : CRel w J Z v c) : CRel w J' Z v (c.mv a b) := by
  cases c with
  | iv c => exact h
  | ip m c => exact h
  | slc k off n E =>
    rcases h with h | ⟨x, cap, c, e, hv, hx, r⟩
    · exact Or.inl h
    · exact Or.inr ⟨x, cap, c, e, hv, hJ k x hx, r⟩
  | ptr k o => obtain ⟨x, e, hx, ho⟩ := h; exact ⟨x, e, hJ k x hx, ho⟩
  | mp k => obtain ⟨x, e, hx⟩ := h; exact ⟨x, e, hJ k x hx⟩
  | it k => obtain ⟨x, e, hx⟩ := h; exact ⟨x, e, hJ k x hx⟩
  | mi => exact h.elim
  | m2 => exact h.elim
  | ml => exact h.elim
  | mt => exact h.elim
  | fn f x y =>
    obtain ⟨A, B, e, h1, h2⟩ := h
    exact ⟨A, B, e, All2.map_right.2 (h1.mono fun _ _ => LRel.mv hJ), All2.map_right.2 (h2.mono fun _ _ => LRel.mv hJ)⟩
  | any => exact h
theorem Blk.mv (hJ : ∀ k x, J k = some x → J' (if k = a then b else k) = some x) {c : Nat} {cs : List CV} (h : Blk w J Z c cs) : Blk w J' Z c (cs.map (CV.mv a b)) := by
  unfold Blk at h
  split at h
  · obtain ⟨rfl, h⟩ := h
    exact ⟨rfl, h⟩
  · obtain ⟨rfl, h⟩ := h
    exact ⟨rfl, h⟩
  · obtain ⟨rfl, es, clock, h1, h2, h3⟩ := h
    exact ⟨rfl, es, clock, h1, h2, (All2.map_right (f := fun x : Int × Fn × List LV × List LV => (x.1, x.2.1, x.2.2.1.map (LV.mv a b), x.2.2.2.map (LV.mv a b)))).2 (h3.mono fun _ _ hr => ⟨hr.1, CRel.mv hJ hr.2⟩)⟩
  · obtain ⟨rfl, m, seen, es, clock, h1, h2, h3⟩ := h
    exact ⟨rfl, m, seen, es, clock, h1, hJ _ _ h2, h3⟩
  · rcases h with ⟨c, e, h1, h2⟩ | ⟨⟨o, h1, h2⟩, h3⟩
    · refine Blk.of h1 ?_
      rw [List.length_map]
      exact All2.map_right.2 (h2.mono fun _ _ => CRel.mv hJ)
    · refine Blk.dead h1 h2 fun c hc => ?_
      obtain ⟨c', hc', rfl⟩ := List.mem_map.1 hc
      rw [h3 c' hc']; rfl
theorem TRel.mv (hJ : ∀ k x, J k = some x → J' (if k = a then b else k) = some x) {v : Value} {c : TV} (h : TRel w J Z v c) : TRel w J' Z v (c.mv a b) := by
  cases c with
  | one c => exact CRel.mv hJ h
  | agg cs => obtain ⟨A, e, h⟩ := h; exact ⟨A, e, All2.map_right.2 (h.mono fun _ _ => CRel.mv hJ)⟩
theorem ARel.mv (hJ : ∀ k x, J k = some x → J' (if k = a then b else k) = some x) {v : Value} {c : AV} (h : ARel w J Z v c) : ARel w J' Z v (c.mv a b) := by
  cases c with
  | t x => exact TRel.mv hJ h
  | tup xs => obtain ⟨A, e, h⟩ := h; exact ⟨A, e, All2.map_right.2 (h.mono fun _ _ => TRel.mv hJ)⟩
  | mb c x => exact ⟨fun hc => TRel.mv hJ (h.1 hc), h.2⟩
  | any => trivial
theorem Rel.mv (R : Rel w0 Z0 J Z s ac w) (ha : (hget s.heap a).isSome = true) : Rel w0 Z0 (fun k => if k = s.heap.length then J a else if k = a then none else J k) Z (s.mv a s.heap.length) ac w := by
  have hla : a < s.heap.length := by
    refine Nat.lt_of_not_le fun h => ?_
    rw [hget_ge _ _ h] at ha
    cases ha
  have hJ : ∀ k x, J k = some x → (fun k => if k = s.heap.length then J a else if k = a then none else J k) (if k = a then s.heap.length else k) = some x := fun k x hx => by
    by_cases h : k = a
    · subst h; simp [hx]
    · simp only [if_neg h]
      rw [if_neg]
      · exact hx
      · rintro rfl
        rw [R.hole _ (hget_ge _ _ (Nat.le_refl _))] at hx
        cases hx
  have sub : ∀ k x, (if k = s.heap.length then J a else if k = a then none else J k) = some x → ∃ q, J q = some x ∧ ((k = s.heap.length ∧ q = a) ∨ (k ≠ s.heap.length ∧ k ≠ a ∧ q = k)) := fun k x h => by
    split at h
    · rename_i e; exact ⟨a, h, Or.inl ⟨e, rfl⟩⟩
    · rename_i e1
      split at h
      · cases h
      · rename_i e2; exact ⟨k, h, Or.inr ⟨e1, e2, rfl⟩⟩
  refine ⟨R.nodef, R.size, R.below, R.zfrom, R.zlt, fun k x h => ?_, fun k j x hk hj => ?_, fun k h => ?_, fun k cs h hne => ?_, fun t => ?_, fun f t => ?_, R.loops, R.lnd, R.ro, R.tab⟩
  · obtain ⟨q, hq, _⟩ := sub k x h
    exact R.jlt q x hq
  · obtain ⟨q1, h1, e1⟩ := sub k x hk
    obtain ⟨q2, h2, e2⟩ := sub j x hj
    have := R.inj q1 q2 x h1 h2
    omega
  · simp only [AS.mv] at h
    rw [hget_mv] at h
    by_cases h1 : k = s.heap.length
    · rw [if_pos h1] at h
      cases hc : hget s.heap a with
      | none => rw [hc] at ha; cases ha
      | some cs => rw [hc] at h; simp [mvO] at h
    · rw [if_neg h1] at h ⊢
      by_cases h2 : k = a
      · rw [if_pos h2]
      · rw [if_neg h2] at h ⊢
        refine R.hole k ?_
        cases hc : hget s.heap k with
        | none => rfl
        | some cs => rw [hc] at h; simp [mvO] at h
  · simp only [AS.mv] at h
    rw [hget_mv] at h
    have one : ∀ q, mvO a s.heap.length (hget s.heap q) = some cs → ∃ b, J q = some b ∧ Blk w (fun k => if k = s.heap.length then J a else if k = a then none else J k) Z b cs := fun q hq => by
      cases hc : hget s.heap q with
      | none => rw [hc] at hq; simp [mvO] at hq
      | some c0 =>
        rw [hc] at hq
        simp only [mvO, Option.map_some, Option.some.injEq] at hq
        subst hq
        obtain ⟨b, g1, g2⟩ := R.blk q c0 hc (by rintro rfl; exact hne rfl)
        exact ⟨b, g1, g2.mv hJ⟩
    by_cases h1 : k = s.heap.length
    · rw [if_pos h1] at h
      obtain ⟨b, g1, g2⟩ := one a h
      exact ⟨b, by rw [if_pos h1]; exact g1, g2⟩
    · rw [if_neg h1] at h
      by_cases h2 : k = a
      · rw [if_pos h2] at h; cases h
      · rw [if_neg h2] at h
        obtain ⟨b, g1, g2⟩ := one k h
        exact ⟨b, by rw [if_neg h1, if_neg h2]; exact g1, g2⟩
  · show ARel _ _ _ _ (lk (mvE a s.heap.length s.env) t)
    rw [lk_mv]; exact ARel.mv hJ (R.slots t)
  · show ARel _ _ _ _ (lk (gf (mvG a s.heap.length s.gh) f) t)
    rw [gf_mv, lk_mv]; exact ARel.mv hJ (R.ghost f t)
end
def famL (F : Nat → Nat → IV) (n : Nat) : List (Option (List CV)) := (List.range n).map fun k => some (rowV (F k) 64)
section
variable (F G : Nat → Nat → IV) (n k a b : Nat)
theorem famL_len : (famL F n).length = n := by simp [famL]
theorem famL_zero : famL F 0 = [] := rfl
theorem famL_at {F : Nat → Nat → IV} {n k : Nat} (h : k < n) : (famL F n)[k]? = some (some (rowV (F k) 64)) := by simp [famL, h]
theorem famL_snoc : famL F n ++ [some (rowV (F n) 64)] = famL F (n + 1) := by simp [famL, List.range_succ]
theorem famL_ext {l : List (Option (List CV))} (hl : l.length = n) (h : ∀ j, j < n → l[j]? = some (some (rowV (F j) 64))) : l = famL F n := by
  refine List.ext_getElem? fun j => ?_
  by_cases hj : j < n
  · rw [h j hj, famL_at hj]
  · rw [List.getElem?_eq_none (by omega), List.getElem?_eq_none (by rw [famL_len]; omega)]
theorem famL_purge : List.map (fun o => Option.map (purgeC a) o) (famL F n) = famL F n := by
  refine famL_ext _ _ (by simp [famL_len]) fun j hj => ?_
  rw [List.getElem?_map, famL_at hj]
  simp [purgeC, rowV_pur]
theorem rowV_mv (f : Nat → IV) : List.map (CV.mv a b) (rowV f n) = rowV f n := by
  refine (List.map_congr_left fun c hc => ?_).trans (List.map_id _)
  have := rowV_iv f n c hc
  cases c <;> first | rfl | exact this.elim
theorem famL_mv : List.map (mvO a b) (famL F n) = famL F n := by
  refine famL_ext _ _ (by simp [famL_len]) fun j hj => ?_
  rw [List.getElem?_map, famL_at hj]
  simp [mvO, rowV_mv]
end
def GOk (H : List (Option (List CV))) (g : List (Nat × List (Nat × AV))) : Prop := ∀ p, p ∈ g → ∀ q, q ∈ p.2 → q.2.ok (okB H)
theorem LV.ok_mono {p q : Nat → Prop} (h : ∀ i, p i → q i) {c : LV} (hc : c.ok p) : c.ok q := by cases c <;> first | trivial | exact h _ hc
theorem CV.ok_mono {p q : Nat → Prop} (h : ∀ i, p i → q i) {c : CV} (hc : c.ok p) : c.ok q := by
  cases c <;> first | trivial | exact h _ hc | exact ⟨fun l hl => LV.ok_mono h (hc.1 l hl), fun l hl => LV.ok_mono h (hc.2 l hl)⟩ | exact fun x hx => ⟨fun l hl => LV.ok_mono h ((hc x hx).1 l hl), fun l hl => LV.ok_mono h ((hc x hx).2 l hl)⟩
theorem TV.ok_mono {p q : Nat → Prop} (h : ∀ i, p i → q i) {c : TV} (hc : c.ok p) : c.ok q := by
  cases c with
  | one c => exact CV.ok_mono h hc
  | agg cs => exact fun c hm => CV.ok_mono h (hc c hm)
theorem AV.ok_mono {p q : Nat → Prop} (h : ∀ i, p i → q i) {c : AV} (hc : c.ok p) : c.ok q := by
  cases c with
  | t x => exact TV.ok_mono h hc
  | tup xs => exact fun c hm => TV.ok_mono h (hc c hm)
  | mb b x => exact TV.ok_mono h hc
  | any => trivial
theorem GOk.mono {H H' : List (Option (List CV))} {g : List (Nat × List (Nat × AV))} (h : GOk H g) (hs : ∀ i, okB H i → okB H' i) : GOk H' g := fun p hp q hq => AV.ok_mono hs (h p hp q hq)
theorem CV.no_has {p : Nat → Prop} {i : Nat} (hi : ¬ p i) {c : CV} (hc : c.ok p) : c.has i = false := by
  cases c with
  | slc j off n E => exact beq_eq_false_iff_ne.2 fun e => hi (e ▸ hc)
  | ptr j o => exact beq_eq_false_iff_ne.2 fun e => hi (e ▸ hc)
  | mp j => exact beq_eq_false_iff_ne.2 fun e => hi (e ▸ hc)
  | it j => exact beq_eq_false_iff_ne.2 fun e => hi (e ▸ hc)
  | mt j c p q => exact beq_eq_false_iff_ne.2 fun e => hi (e ▸ hc)
  | ml l =>
    refine List.any_eq_false.2 fun x hx => ?_
    rw [Bool.not_eq_true]
    refine Bool.or_eq_false_iff.2 ⟨List.any_eq_false.2 fun l hl => ?_, List.any_eq_false.2 fun l hl => ?_⟩
    · have := (hc x hx).1 l hl
      cases l with
      | iv c => simp [LV.has]
      | ptr j o => simp only [LV.has, beq_iff_eq]; exact fun e => hi (e ▸ this)
      | mp j => simp only [LV.has, beq_iff_eq]; exact fun e => hi (e ▸ this)
    · have := (hc x hx).2 l hl
      cases l with
      | iv c => simp [LV.has]
      | ptr j o => simp only [LV.has, beq_iff_eq]; exact fun e => hi (e ▸ this)
      | mp j => simp only [LV.has, beq_iff_eq]; exact fun e => hi (e ▸ this)
  | fn f a b =>
    refine Bool.or_eq_false_iff.2 ⟨List.any_eq_false.2 fun l hl => ?_, List.any_eq_false.2 fun l hl => ?_⟩
    · have := hc.1 l hl
      cases l with
      | iv c => simp [LV.has]
      | ptr j o => simp only [LV.has, beq_iff_eq]; exact fun e => hi (e ▸ this)
      | mp j => simp only [LV.has, beq_iff_eq]; exact fun e => hi (e ▸ this)
    · have := hc.2 l hl
      cases l with
      | iv c => simp [LV.has]
      | ptr j o => simp only [LV.has, beq_iff_eq]; exact fun e => hi (e ▸ this)
      | mp j => simp only [LV.has, beq_iff_eq]; exact fun e => hi (e ▸ this)
  | _ => rfl
theorem TV.no_has {p : Nat → Prop} {i : Nat} (hi : ¬ p i) {c : TV} (hc : c.ok p) : c.has i = false := by
  cases c with
  | one c => exact CV.no_has hi hc
  | agg cs => exact List.any_eq_false.2 fun c hm => by simp [CV.no_has hi (hc c hm)]
theorem AV.no_has {p : Nat → Prop} {i : Nat} (hi : ¬ p i) {c : AV} (hc : c.ok p) : c.has i = false := by
  cases c with
  | t x => exact TV.no_has hi hc
  | tup xs => exact List.any_eq_false.2 fun c hm => by simp [TV.no_has hi (hc c hm)]
  | mb b x => exact TV.no_has hi hc
  | any => rfl
theorem LV.mv_no {p : Nat → Prop} {i b : Nat} (hi : ¬ p i) {c : LV} (hc : c.ok p) : c.mv i b = c := by
  cases c with
  | iv c => rfl
  | ptr k o => simp only [LV.mv]; rw [if_neg]; rintro rfl; exact hi hc
  | mp k => simp only [LV.mv]; rw [if_neg]; rintro rfl; exact hi hc
theorem CV.mv_no {p : Nat → Prop} {i b : Nat} (hi : ¬ p i) {c : CV} (hc : c.ok p) : c.mv i b = c := by
  cases c with
  | slc k off n E => simp only [CV.mv]; rw [if_neg]; rintro rfl; exact hi hc
  | ptr k o => simp only [CV.mv]; rw [if_neg]; rintro rfl; exact hi hc
  | mp k => simp only [CV.mv]; rw [if_neg]; rintro rfl; exact hi hc
  | it k => simp only [CV.mv]; rw [if_neg]; rintro rfl; exact hi hc
  | mt k c p q => simp only [CV.mv]; rw [if_neg]; rintro rfl; exact hi hc
  | ml l =>
    simp only [CV.mv]
    congr 1
    refine (List.map_congr_left fun x hx => ?_).trans (List.map_id _)
    rw [(List.map_congr_left fun l hl => LV.mv_no hi ((hc x hx).1 l hl)).trans (List.map_id _), (List.map_congr_left fun l hl => LV.mv_no hi ((hc x hx).2 l hl)).trans (List.map_id _)]
    rfl
  | fn f x y =>
    simp only [CV.mv]
    rw [(List.map_congr_left fun l hl => LV.mv_no hi (hc.1 l hl)).trans (List.map_id _), (List.map_congr_left fun l hl => LV.mv_no hi (hc.2 l hl)).trans (List.map_id _)]
  | _ => rfl
theorem TV.mv_no {p : Nat → Prop} {i b : Nat} (hi : ¬ p i) {c : TV} (hc : c.ok p) : c.mv i b = c := by
  cases c with
  | one c => simp only [TV.mv]; rw [CV.mv_no hi hc]
  | agg cs => simp only [TV.mv]; rw [(List.map_congr_left fun l hl => CV.mv_no hi (hc l hl)).trans (List.map_id _)]
theorem AV.mv_no {p : Nat → Prop} {i b : Nat} (hi : ¬ p i) {c : AV} (hc : c.ok p) : c.mv i b = c := by
  cases c with
  | t x => simp only [AV.mv]; rw [TV.mv_no hi hc]
  | tup xs => simp only [AV.mv]; rw [(List.map_congr_left fun l hl => TV.mv_no hi (hc l hl)).trans (List.map_id _)]
  | mb b x => simp only [AV.mv]; rw [TV.mv_no hi hc]
  | any => rfl
theorem GOk.purge {H : List (Option (List CV))} {g : List (Nat × List (Nat × AV))} (h : GOk H g) {i : Nat} (hi : hget H i = none) : purgeG i g = g := by
  refine (List.map_congr_left fun p hp => ?_).trans (List.map_id _)
  have : purgeE i p.2 = p.2 := (List.map_congr_left fun q hq => by
    have hn : ¬ okB H i := by unfold okB; rw [hi]; simp
    simp only [AV.purge, AV.no_has hn (h p hp q hq), cond_false]
    rfl).trans (List.map_id _)
  rw [this]; rfl
theorem GOk.mv {H : List (Option (List CV))} {g : List (Nat × List (Nat × AV))} (h : GOk H g) {i : Nat} (hi : hget H i = none) (b : Nat) : mvG i b g = g := by
  refine (List.map_congr_left fun p hp => ?_).trans (List.map_id _)
  have : mvE i b p.2 = p.2 := (List.map_congr_left fun q hq => by
    have hn : ¬ okB H i := by unfold okB; rw [hi]; simp
    rw [AV.mv_no hn (h p hp q hq)]
    rfl).trans (List.map_id _)
  rw [this]; rfl
theorem GOk.cons {H : List (Option (List CV))} {g : List (Nat × List (Nat × AV))} {f : Nat} {e : List (Nat × AV)} (he : ∀ q, q ∈ e → q.2.ok (okB H)) (h : GOk H g) : GOk H ((f, e) :: g) := fun p hp => by
  rcases List.mem_cons.1 hp with rfl | hp
  · exact he
  · exact h p hp
theorem GOk.nil (H : List (Option (List CV))) : GOk H [] := fun p hp => by cases hp
attribute [go_sem] AS.mv mvE mvG mvH mvO AV.mv TV.mv CV.mv LV.mv famL_mv famL_purge famL_snoc famL_zero
end Go.Sea
namespace Go.Sea
open Go.RowKit Go.Sea
def dnT (D : Nat → Bool) : List Nat → Prop
  | [] => True
  | k :: r => D k = true ∧ dnT D r
def dnF (D : Nat → Bool) : List Nat → Prop
  | [] => True
  | k :: r => D k = false ∧ dnF D r
def updD (D : Nat → Bool) (i : Nat) : Nat → Bool := fun k => if k = i then true else D k
def ancT (ops : Array Oper) (TF : List (List Nat × List Nat)) : Bool := TF.length == ops.size && (List.range ops.size).all fun i =>
  (TF.getD i ([], [])).1.all (fun k => ((masks [] ops.toList).getD i 0).testBit k) && (TF.getD i ([], [])).2.all (fun k => k == i || (decide (k < ops.size) && ((masks [] ops.toList).getD k 0).testBit i))
def runD (P : Program) (os : List Oper) (n0 : Nat) (L : List Nat) (S : (Nat → Bool) → AS) : Nat → List (List Nat × List Nat) → Prop
  | _, [] => True
  | i, (T, F) :: r => (∀ D, dnT D T → dnF D F → opTr P n0 i (S D) (fun s' => Leaf ⟨keepE s'.env L, s'.heap, s'.N, s'.gh, s'.lp⟩ (S (updD D i))) (nthO os i)) ∧ runD P os n0 L S (i + 1) r
theorem runD_nilI {P : Program} {os : List Oper} {n0 i : Nat} {L : List Nat} {S : (Nat → Bool) → AS} : runD P os n0 L S i [] := trivial
theorem runD_consI {P : Program} {os : List Oper} {n0 i : Nat} {L : List Nat} {S : (Nat → Bool) → AS} {T F : List Nat} {r : List (List Nat × List Nat)} (h : ∀ D, dnT D T → dnF D F → ∀ K : AS → Prop, (∀ s' : AS, Leaf ⟨keepE s'.env L, s'.heap, s'.N, s'.gh, s'.lp⟩ (S (updD D i)) → K s') → opTr P n0 i (S D) K (nthO os i)) (h2 : runD P os n0 L S (i + 1) r) : runD P os n0 L S i ((T, F) :: r) :=
  ⟨fun D hT hF => h D hT hF _ fun _ h => h, h2⟩
theorem runD_at {P : Program} {os : List Oper} {n0 : Nat} {L : List Nat} {S : (Nat → Bool) → AS} : ∀ {TF : List (List Nat × List Nat)} {j i : Nat}, runD P os n0 L S j TF → i < TF.length → ∀ D, dnT D (TF.getD i ([], [])).1 → dnF D (TF.getD i ([], [])).2 → opTr P n0 (j + i) (S D) (fun s' => Leaf ⟨keepE s'.env L, s'.heap, s'.N, s'.gh, s'.lp⟩ (S (updD D (j + i)))) (nthO os (j + i))
  | (T, F) :: r, j, 0, h, _ => h.1
  | (T, F) :: r, j, i + 1, h, hi => by
    have := runD_at (i := i) h.2 (by simpa using hi)
    rw [show j + 1 + i = j + (i + 1) by omega] at this
    exact this
theorem dnT_of {D : Nat → Bool} : ∀ {l : List Nat}, (∀ k, k ∈ l → D k = true) → dnT D l
  | [], _ => trivial
  | k :: l, h => ⟨h k (List.mem_cons_self ..), dnT_of fun j hj => h j (List.mem_cons_of_mem _ hj)⟩
theorem dnF_of {D : Nat → Bool} : ∀ {l : List Nat}, (∀ k, k ∈ l → D k = false) → dnF D l
  | [], _ => trivial
  | k :: l, h => ⟨h k (List.mem_cons_self ..), dnF_of fun j hj => h j (List.mem_cons_of_mem _ hj)⟩
theorem Rep_keepT {w0 : World} {Z0 : Fr} {s s' : AS} {a : Act} {w : World} {L : List Nat} (h : Leaf ⟨keepE s.env L, s.heap, s.N, s.gh, s.lp⟩ s') (R : Rep w0 Z0 s a w) : Rep w0 Z0 s' a w := by
  obtain ⟨rfl⟩ := h
  obtain ⟨J, Z, R⟩ := R
  exact ⟨J, Z, R.nodef, R.size, R.below, R.zfrom, R.zlt, R.jlt, R.inj, R.hole, R.blk, fun t => by
    rcases lk_keepE s.env t L with e | e
    · show ARel _ _ _ _ (lk (keepE s.env L) t); rw [e]; trivial
    · show ARel _ _ _ _ (lk (keepE s.env L) t); rw [e]; exact R.slots t, R.ghost, R.loops, R.lnd, R.ro, R.tab⟩
theorem AW_regionT {P : Program} {s : AS} {Q : Exit → AS → Prop} {id : Nat} {ops : Array Oper} (n0 : Nat) (L : List Nat) (TF : List (List Nat × List Nat)) (A : List Nat) (S : (Nat → Bool) → AS) (hm : P.follows .mixedOrders = true) (hback : backB .any ops = true) (hd : noDefer ops = true) (hc : ancT ops TF = true)
    (h0 : Leaf ⟨keepE s.env L, s.heap, s.N, s.gh, s.lp⟩ (S fun _ => false)) (h : runD P ops.toList n0 L S 0 TF) (hA : (A.all fun k => decide (k < ops.size)) = true) (hq : ∀ D, dnT D A → Q .normal (S D)) : AW P (.region id ops true) s Q := fun w0 Z0 a w n R => by
  simp only [ancT, Bool.and_eq_true, beq_iff_eq] at hc
  refine regionIn_by (free_fo _) (fun _ D a w => Rep w0 Z0 (S D) a w) hm hd hback ?_ ?_ fun D a w hD R' => ?_
  · obtain ⟨J, Z, R⟩ := Rep_keepT h0 R
    exact ⟨J, Z, R.drew⟩
  · refine Steps.of ops.toList 0 fun i o ho D a w R' hDi hpre hcl K hK => ?_
    rw [Nat.zero_add] at hDi
    simp only [Nat.zero_add] at hK
    have hoi : ops[i]? = some o := by rw [← Array.getElem?_toList]; exact ho
    have hi : i < ops.size := (Array.getElem?_eq_some_iff.1 hoi).1
    have hE := List.all_eq_true.1 hc.2 i (List.mem_range.2 hi)
    rw [Bool.and_eq_true] at hE
    have hT : dnT D (TF.getD i ([], [])).1 := dnT_of fun k hk => (masks_anc (ops := ops) (List.all_eq_true.1 hE.1 k hk)).done hcl o hoi hpre
    have hF : dnF D (TF.getD i ([], [])).2 := dnF_of fun k hk => by
      have h1 := List.all_eq_true.1 hE.2 k hk
      rw [Bool.or_eq_true, beq_iff_eq, Bool.and_eq_true, decide_eq_true_eq] at h1
      rcases h1 with rfl | ⟨h1, h2⟩
      · exact hDi
      · cases hk' : D k with
        | false => rfl
        | true =>
          have ho' : ops[k]? = some ops[k] := Array.getElem?_eq_getElem h1
          have := (masks_anc (ops := ops) h2).done hcl _ ho' (hcl k _ ho' hk')
          rw [hDi] at this; cases this
    have hop := runD_at h (i := i) (by omega) D hT hF
    rw [Nat.zero_add] at hop
    rw [nthO_get, Array.getElem?_toList, hoi] at hop
    obtain ⟨hg, hop⟩ := hop
    split at hop
    · rename_i nd v ef hof
      obtain ⟨hh, hdst, hnd, hrun⟩ := hop
      obtain ⟨J, Z, R'⟩ := R'
      have hw : Region.wanted o (yielded ops a.tmps) = true := by simp [Region.wanted, hg]
      rw [if_pos hw]
      refine does_wp (opF_sound R' hh hof hnd) fun J' w' u R'' hr' => hK _ _ ?_
      have e : upd D i = updD D i := by
        funext k
        unfold updD
        by_cases hk : k = i
        · subst hk; simp [upd]
        · rw [upd_ne D hk, if_neg hk]
      show Rep w0 Z0 (S (upd D i)) _ _
      rw [e]
      exact Rep_keepT hrun ⟨J', Z, R''.put (fun k e => by rw [eff_N]; exact dstOk_spec hdst k e) hr'⟩
    · exact hop.elim
  · exact ⟨S D, R', hq D (dnT_of fun k hk => hD k (of_decide_eq_true (List.all_eq_true.1 hA k hk)))⟩
end Go.Sea
