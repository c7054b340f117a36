/- Part 13 of 16: contracts of functions and plain laws for the root text. No condition. -/
import Derived.Test.YtmnejmpjmniiiaaGreatDoorW01
import Derived.Test.YtmnejmpjmniiiaaGreatDoorW02
import Derived.Test.YtmnejmpjmniiiaaGreatDoorW03
import Derived.Test.YtmnejmpjmniiiaaGreatDoorW04
import Derived.Test.YtmnejmpjmniiiaaGreatDoorW05
import Derived.Test.YtmnejmpjmniiiaaGreatDoorW06
import Derived.Test.YtmnejmpjmniiiaaGreatDoorW07
import Derived.Test.YtmnejmpjmniiiaaGreatDoorW08
import Derived.Test.YtmnejmpjmniiiaaGreatDoorW09
import Derived.Test.YtmnejmpjmniiiaaGreatDoorW10
import Derived.Test.YtmnejmpjmniiiaaGreatDoorW11
import Derived.Test.YtmnejmpjmniiiaaGreatDoorW12
set_option linter.unusedVariables false
set_option linter.unusedSimpArgs false
set_option maxRecDepth 100000
set_option maxHeartbeats 4000000
namespace Go.Proofs.YtmnejmpjmniiiaaGreatDoor
open Go.RowKit Go.Sea
open Nat renaming reduceAdd → xA, reduceLT → xL, reduceLeDiff → xD, reduceEqDiff → xE, reduceMul → xM, reduceSub → xS, reduceBEq → xB
theorem fnok_46 : fnOk Tryz.prog 46 = true := by kernel_rfl
theorem fnok_47 : fnOk Tryz.prog 47 = true := by kernel_rfl
theorem fnok_50 : fnOk Tryz.prog 50 = true := by kernel_rfl
theorem fnok_51 : fnOk Tryz.prog 51 = true := by kernel_rfl
theorem fnok_52 : fnOk Tryz.prog 52 = true := by kernel_rfl
theorem fnok_53 : fnOk Tryz.prog 53 = true := by kernel_rfl
theorem fnok_56 : fnOk Tryz.prog 56 = true := by kernel_rfl
theorem fnok_57 : fnOk Tryz.prog 57 = true := by kernel_rfl
theorem fnok_58 : fnOk Tryz.prog 58 = true := by kernel_rfl
theorem fnok_80 : fnOk Tryz.prog 80 = true := by kernel_rfl
theorem ty_94 : tyD Tryz.prog 94 = some (false, 1) := by kernel_rfl
theorem ty_96 : tyD Tryz.prog 96 = some (false, 1) := by kernel_rfl
theorem zc_68 : zeroC Tryz.prog 68 = some [.iv (.g (.pointer none))] := by kernel_rfl
attribute [go_sem] fnok_46 fnok_51 fnok_52 fnok_53 fnok_58 ty_94 ty_96 zc_68
def worC (s t : Nat) : Bool := decide (cnt t < cnt s) || (decide (cnt t = cnt s) && befB t s)
def worR (s t : Nat) : Bool := decide (cnt s < cnt t) || (decide (cnt t = cnt s) && befB t s)
def bst (w : Nat → Nat → Bool) (g : Nat → Bool) : Nat → Nat × Bool
  | 0 => (0, false)
  | s + 1 => if ((!(bst w g s).2 || w (bst w g s).1 s) && g s) = true then (s, true) else bst w g s
theorem bst_cs (w : Nat → Nat → Bool) (g : Nat → Bool) (s : Nat) :
    ((bst w g s).2 = false ∧ True ∧ g s = true ∧ bst w g (s + 1) = (s, true)) ∨ ((bst w g s).2 = false ∧ True ∧ g s = false ∧ bst w g (s + 1) = bst w g s) ∨
    ((bst w g s).2 = true ∧ w (bst w g s).1 s = false ∧ True ∧ bst w g (s + 1) = bst w g s) ∨ ((bst w g s).2 = true ∧ w (bst w g s).1 s = true ∧ g s = true ∧ bst w g (s + 1) = (s, true)) ∨
    ((bst w g s).2 = true ∧ w (bst w g s).1 s = true ∧ g s = false ∧ bst w g (s + 1) = bst w g s) := by
  have e : bst w g (s + 1) = if ((!(bst w g s).2 || w (bst w g s).1 s) && g s) = true then (s, true) else bst w g s := rfl
  rw [e]
  cases (bst w g s).2 <;> cases w (bst w g s).1 s <;> cases g s <;> simp
theorem bst_0 (w : Nat → Nat → Bool) (g : Nat → Bool) : bst w g 0 = (0, false) := rfl
theorem bst_in {w : Nat → Nat → Bool} {g : Nat → Bool} {m : Nat} : ∀ {s : Nat}, s ≤ 2 ^ m → inS m (bst w g s).1
  | 0, _ => Nat.pow_pos (by decide)
  | s + 1, h => by
    have ih := bst_in (w := w) (g := g) (m := m) (s := s) (by omega)
    rcases bst_cs w g s with e | e | e | e | e <;> rw [e.2.2.2]
    all_goals first | exact ih | exact (show s < 2 ^ m by omega)
theorem clo_in {x : CaS} (he : cvE x = 0) {s : Nat} (h : inS x.m s) : inS x.m (cloN (opP x) s) := by
  obtain ⟨hv, _, _, _, hm, _⟩ := cv_ok he
  have key : ∀ (l : List Nat) (a : Nat), a < 2 ^ x.m → (∀ i, i ∈ l → i < x.m) → orL (opP x) a l < 2 ^ x.m := by
    intro l
    induction l with
    | nil => intro a h _; exact h
    | cons i l ih =>
      intro a ha hl
      have hi := hl i (List.mem_cons_self ..)
      exact ih _ (Nat.or_lt_two_pow ha (Nat.lt_trans (pstN_lt hv hm hi) (Nat.pow_lt_pow_right (by decide) hi))) fun j hj => hl j (List.mem_cons_of_mem _ hj)
  exact key (bl s) s h fun i hi => inS_mem h hi
theorem all_in (m : Nat) : inS m (2 ^ m - 1) := by have : 0 < 2 ^ m := Nat.pow_pos (by decide); show 2 ^ m - 1 < 2 ^ m; omega
def isC (x : CaS) (s : Nat) : Bool := !behB (opY x) (cloN (opP x) s)
def isR (x : CaS) (s : Nat) : Bool := behB (opY x) s
def coB (x : CaS) : Nat × Bool := bst worC (isC x) (2 ^ x.m)
def rpB (x : CaS) : Nat × Bool := bst worR (isR x) (2 ^ x.m)
def coE (x : CaS) : Int := if cvE x = 0 then (if (coB x).2 = true then 0 else 4) else cvE x
def coL (x : CaS) : List Int := if cvE x = 0 then (if (coB x).2 = true then wrL x.S (bl (coB x).1) else []) else []
def rpL (x : CaS) : List Int := if cvE x = 0 then wrL x.S (bl (rpB x).1) else []
def wthN (P : Nat → Nat) (m i : Nat) : Nat → Nat
  | 0 => (2 ^ m - 1) ^^^ ((2 ^ m - 1) &&& 2 ^ i)
  | k + 1 => if (P k).testBit i = true then wthN P m i k ^^^ (wthN P m i k &&& 2 ^ k) else wthN P m i k
theorem wth_t {P : Nat → Nat} {m i k : Nat} (h : (P k).testBit i = true) : wthN P m i (k + 1) = wthN P m i k ^^^ (wthN P m i k &&& 2 ^ k) := if_pos h
theorem wth_f {P : Nat → Nat} {m i k : Nat} (h : (P k).testBit i = false) : wthN P m i (k + 1) = wthN P m i k := if_neg (by rw [h]; simp)
theorem wth_in {P : Nat → Nat} {m i : Nat} : ∀ k, inS m (wthN P m i k)
  | 0 => Nat.xor_lt_two_pow (all_in m) (Nat.lt_of_le_of_lt Nat.and_le_left (all_in m))
  | k + 1 => by
    have := wth_in (P := P) (m := m) (i := i) k
    show (if _ then _ else _) < _
    split
    · exact Nat.xor_lt_two_pow this (Nat.lt_of_le_of_lt Nat.and_le_left this)
    · exact this
def blI (x : CaS) : Nat → List Int
  | 0 => []
  | i + 1 => if behB (opY x) (wthN (opP x) x.m i x.m) = true then blI x i ++ [(x.S i).nu] else blI x i
theorem blI_0 (x : CaS) : blI x 0 = [] := rfl
theorem blI_t {x : CaS} {i : Nat} (h : behB (opY x) (wthN (opP x) x.m i x.m) = true) : blI x (i + 1) = blI x i ++ [(x.S i).nu] := if_pos h
theorem blI_f {x : CaS} {i : Nat} (h : behB (opY x) (wthN (opP x) x.m i x.m) = false) : blI x (i + 1) = blI x i := if_neg (by rw [h]; simp)
theorem blI_le (x : CaS) : ∀ i, (blI x i).length ≤ i
  | 0 => Nat.le_refl _
  | i + 1 => by
    have := blI_le x i
    show (if _ then _ else _ : List Int).length ≤ _
    split
    · simp; omega
    · omega
def blE (x : CaS) : Int := if cvE x = 0 then (if behB (opY x) (2 ^ x.m - 1) = true then 4 else 0) else cvE x
def blL (x : CaS) : List Int := if cvE x = 0 then (if behB (opY x) (2 ^ x.m - 1) = true then [] else blI x x.m) else []
theorem opY_x (x : CaS) : (opY x).x = x := rfl
theorem u_s1 {s : Nat} (h : s < 1024) : IntKind.u64.wrap ((s : Int) + 1) = ((s + 1 : Nat) : Int) := by rw [IntKind.wrap_u64]; omega
theorem worC_p (s t : Nat) (hs : s < 1024) (ht : t < 1024) : CallsP Tryz.prog 50 [.one (.g (.int .u64 ((s : Int)))), .one (.g (.int .u64 ((t : Int))))] (.t (.one (.g (.bool (worC s t))))) := by
  refine CallsP_of Tryz.func50 rfl (by rw [Tryz.ntmps50]; simp) ?_
  simp only [Tryz.ntmps50, zM, PT.tv, argEnv, Nat.zero_add, Nat.reduceAdd]
  repeat' (first
 | ((with_reducible show AW _ _ _ _); first
 | (with_reducible first | refine aS (fun K hK => ?_) | refine aT ?_)
 | (first
 | (with_reducible first | refine aP 0 [0,1] ?_ | refine aP 1 [0,1] ?_)))
 | ((first | (with_reducible refine And.intro ?_ ?_) | (with_reducible refine Need.mk ?_)); focus (first | exact True.intro | (intro _; (with_reducible assumption)) | (simp; done) | (simp; omega)))
 | (with_reducible refine retK_n ?_)
 | ((with_reducible show callN _ _ _ _ _ _ _ _ _ _); first
 | (refine callN_q (k := 51) fnok_51 (size_p t ht) ?_ ?_)
 | (refine callN_q (k := 51) fnok_51 (size_p s hs) ?_ ?_))
 | ((with_reducible show callGN _ _ _ _ _ _ _ _ _ _); first
 | (refine callGN_q (k := 51) fnok_51 (fun hg => size_p t ht) ?_ ?_)
 | (refine callGN_q (k := 51) fnok_51 (fun hg => size_p s hs) ?_ ?_)
 | (refine callGN_q (k := 52) fnok_52 (fun hg => bef_p t s ht hs) ?_ ?_))
 | ((fail_if_success (with_reducible show AW _ _ _ _)); simp (maxSteps := 2000000) only [go_sem, reduceIte, reduceCtorEq, xA, xL, xD, xE, xM, xS, xB, Tryz.f50])
 | ((with_reducible refine hK _ ?_); clear hK K))
  all_goals (have e1 : decide ((cnt t : Int) < cnt s) = decide (cnt t < cnt s) := decide_eq_decide.2 (by omega); have e2 : ((cnt t : Int) == cnt s) = decide (cnt t = cnt s) := (by rw [Bool.eq_iff_iff]; simp only [beq_iff_eq, decide_eq_true_eq]; omega); rw [e1, e2]; rfl)
theorem worR_p (s t : Nat) (hs : s < 1024) (ht : t < 1024) : CallsP Tryz.prog 57 [.one (.g (.int .u64 ((s : Int)))), .one (.g (.int .u64 ((t : Int))))] (.t (.one (.g (.bool (worR s t))))) := by
  refine CallsP_of Tryz.func57 rfl (by rw [Tryz.ntmps57]; simp) ?_
  simp only [Tryz.ntmps57, zM, PT.tv, argEnv, Nat.zero_add, Nat.reduceAdd]
  repeat' (first
 | ((with_reducible show AW _ _ _ _); first
 | (with_reducible first | refine aS (fun K hK => ?_) | refine aT ?_)
 | (first
 | (with_reducible first | refine aP 0 [0,1] ?_ | refine aP 1 [0,1] ?_)))
 | ((first | (with_reducible refine And.intro ?_ ?_) | (with_reducible refine Need.mk ?_)); focus (first | exact True.intro | (intro _; (with_reducible assumption)) | (simp; done) | (simp; omega)))
 | (with_reducible refine retK_n ?_)
 | ((with_reducible show callN _ _ _ _ _ _ _ _ _ _); first
 | (refine callN_q (k := 51) fnok_51 (size_p t ht) ?_ ?_)
 | (refine callN_q (k := 51) fnok_51 (size_p s hs) ?_ ?_))
 | ((with_reducible show callGN _ _ _ _ _ _ _ _ _ _); first
 | (refine callGN_q (k := 51) fnok_51 (fun hg => size_p t ht) ?_ ?_)
 | (refine callGN_q (k := 51) fnok_51 (fun hg => size_p s hs) ?_ ?_)
 | (refine callGN_q (k := 52) fnok_52 (fun hg => bef_p t s ht hs) ?_ ?_))
 | ((fail_if_success (with_reducible show AW _ _ _ _)); simp (maxSteps := 2000000) only [go_sem, reduceIte, reduceCtorEq, xA, xL, xD, xE, xM, xS, xB, Tryz.f57])
 | ((with_reducible refine hK _ ?_); clear hK K))
  all_goals (have e1 : decide ((cnt t : Int) > cnt s) = decide (cnt s < cnt t) := decide_eq_decide.2 (by omega); have e2 : ((cnt t : Int) == cnt s) = decide (cnt t = cnt s) := (by rw [Bool.eq_iff_iff]; simp only [beq_iff_eq, decide_eq_true_eq]; omega); rw [e1, e2]; rfl)
theorem core_f (x : CaS) (hx : x.Ok) (he : cvE x ≠ 0) : CallsP Tryz.prog 21 [.one (.lst 9 x.n (featF x.f)), .one (.lst 2 x.m (stF x.S)), .one (.lst 1 x.mo (ptF x.O))] (.tup [.one (.lst 1 (coL x).length (intI (zL (coL x)))), .one (.g (.int .i64 (coE x)))]) := by
  refine CallsP_of Tryz.func21 rfl (by rw [Tryz.ntmps21]; simp) ?_
  simp only [Tryz.ntmps21, zM, PT.tv, argEnv, Nat.zero_add, Nat.reduceAdd]
  repeat' (first
 | ((with_reducible show AW _ _ _ _); first
 | (with_reducible first | refine aS (fun K hK => ?_) | refine aT ?_ | refine aC ?_)
 | (first
 | (with_reducible first | refine aP 0 [0,1,2] ?_ | refine aP 1 [0,1,2] ?_ | refine aP 2 [8,9] ?_ | refine aP 3 [9] ?_)))
 | ((first | (with_reducible refine And.intro ?_ ?_) | (with_reducible refine Need.mk ?_)); focus (exact True.intro))
 | (with_reducible refine retK_n ?_)
 | ((with_reducible show condN _ _ _ _ _ _); first
 | ((with_reducible refine condN_t ?_ ?_) <;> (intro hc; (try simp only [zB, zC, reduceCtorEq] at hc); ((try (exfalso; omega))); (try (exfalso; contradiction)))))
 | ((with_reducible show callN _ _ _ _ _ _ _ _ _ _); first
 | (refine callN_q (k := 37) fnok_37 (opn_f x hx he) ?_ ?_))
 | ((fail_if_success (with_reducible show AW _ _ _ _)); simp (maxSteps := 2000000) only [go_sem, reduceIte, reduceCtorEq, xA, xL, xD, xE, xM, xS, xB, Tryz.f21])
 | ((with_reducible refine hK _ ?_); clear hK K))
  all_goals ((unfold coL coE; rw [if_neg he, if_neg he]; exact ⟨rfl, rfl⟩))
theorem is_c {x : CaS} {s : Nat} {b : Bool} (h : isC x s = b) : behB (opY x) (cloN (opP x) s) = !b := by rw [← h]; unfold isC; rw [Bool.not_not]
theorem core_t (x : CaS) (hx : x.Ok) (he : cvE x = 0) : CallsP Tryz.prog 21 [.one (.lst 9 x.n (featF x.f)), .one (.lst 2 x.m (stF x.S)), .one (.lst 1 x.mo (ptF x.O))] (.tup [.one (.lst 1 (coL x).length (intI (zL (coL x)))), .one (.g (.int .i64 (coE x)))]) := by
  obtain ⟨_, _, _, _, hm, _⟩ := cv_ok he
  have h2p : 0 < 2 ^ x.m := Nat.pow_pos (by decide)
  have mk0 : True := trivial
  have mk1 : True := trivial
  have hf : True := trivial
  have hw : True := trivial
  have hg : True := trivial
  have hbs : True := trivial
  have hsw : True := trivial
  have hig : True := trivial
  refine CallsP_of Tryz.func21 rfl (by rw [Tryz.ntmps21]; simp) ?_
  simp only [Tryz.ntmps21, zM, PT.tv, argEnv, Nat.zero_add, Nat.reduceAdd]
  repeat' (first
 | ((with_reducible show callGK _ _ false _ _ _ _); (with_reducible refine callGK_s (fun h => by cases h) (fun _ => ?_)))
 | ((with_reducible show callGK _ _ true (Oper.mk _ (Op.call _) _ _ _ _) _ _ _); (with_reducible refine callGK_s (fun _ => ?_) (fun h => by cases h)))
 | ((with_reducible show AW _ _ _ _); first
 | (with_reducible first | refine aS (fun K hK => ?_) | refine aI ?_ | refine aX ?_ | refine aT ?_ | refine aC ?_ | refine aB ?_)
 | (first
 | (with_reducible first | refine aP (ops := #[⟨some 6, _, _, _, _, _⟩, _]) 0 [0,1,2] ?_ | refine aP (ops := #[⟨some 4, _, _, _, _, _⟩, _, _, _]) 0 [0,1,2] ?_ | refine aP (ops := #[⟨some 6, _, _, _, _, _⟩, _, _, _, _, _, _, _, _, _, _, _, _]) 0 [0,1,2,3,4] ?_ | refine aP (ops := #[⟨some 3, _, _, _, _, _⟩]) 0 [0,1] ?_ | refine aP (ops := #[⟨some 13, _, _, _, _, _⟩, _, _, _, _, _, _, _, _, _]) 1 [0,1,2] ?_ | refine aP (ops := #[⟨some 8, _, _, _, _, _⟩]) 1 [0,4,5] ?_ | refine aP (ops := #[⟨some 19, _, _, _, _, _⟩, _, _]) 1 [0,1,3] ?_)
 | ((with_reducible refine aR (c := Code.region 1 _ true) [0,1] ?_); (with_reducible refine aD ?_ ?_ ?_ ?_); (focus kernel_rfl); (focus kernel_rfl); (focus kernel_rfl))
 | (with_reducible first | refine aP (ops := #[⟨some 19, _, _, _, _, _⟩, _]) 2 [8,9] ?_ | refine aP (ops := #[⟨some 9, _, _, _, _, _⟩, _]) 2 [0,4,5,8] ?_ | refine aP (ops := #[⟨some 14, _, _, _, _, _⟩, _, _]) 2 [5] ?_ | refine aP (ops := #[⟨some 12, _, _, _, _, _⟩, _]) 3 [0,4,5,8,9] ?_ | refine aP (ops := #[⟨some 23, _, _, _, _, _⟩, _, _, _, _, _, _, _]) 4 [8] ?_ | refine aP (ops := #[⟨some 11, _, _, _, _, _⟩]) 4 [0,8,9,10] ?_ | refine aP (ops := #[⟨some 28, _, _, _, _, _⟩, _]) 5 [8,10,11] ?_ | refine aP (ops := #[⟨some 13, _, _, _, _, _⟩, _, _, _]) 5 [0,8,9,10,11] ?_ | refine aP (ops := #[⟨some 6, _, _, _, _, _⟩, _]) 6 [] ?_ | refine aP (ops := #[⟨some 17, _, _, _, _, _⟩, _, _]) 6 [0,8,9,10,11] ?_ | refine aP (ops := #[⟨some 30, _, _, _, _, _⟩, _, _, _, _]) 7 [8,10] ?_ | refine aP (ops := #[⟨some 19, _, _, _, _, _⟩, _, _]) 7 [0,8,9,10,11] ?_)
 | ((with_reducible refine aR (c := Code.region 8 _ true) [8,9] ?_); (with_reducible refine aD ?_ ?_ ?_ ?_); (focus kernel_rfl); (focus kernel_rfl); (focus kernel_rfl)))
 | ((with_reducible show AW _ (Code.loop _) _ _); first
 | ((with_reducible refine aL (c := (Code.seq (Code.seq (Code.region 5 _ _) _) _)) (ι := Nat) [0,8,9,10] (fun s => [(11, .t (.one (.iv (.g (.int .u64 (s : Int))))))]) (fun s => [(3, [.iv (.g (.int .u64 ((bst worC (isC x) s).1 : Nat)))]), (4, [.iv (.g (.bool (bst worC (isC x) s).2))])]) (fun s => s ≤ 2 ^ x.m) (fun s => 2 ^ x.m - s) 0 ?lg5 ?l15 ?l25 ?li5 ?lr5); (case' lg5 => rintro s _); (case' li5 => try (exact Nat.zero_le _)); (case' lr5 => rintro s hsI KR hR5; simp only [keepE, hupd, hset, lk, if_true, if_false, xE, reduceIte, zN, opY_x, he, hf, hw, hbs, hsw, hig, bst_0]))))
 | ((first | (with_reducible refine And.intro ?_ ?_) | (with_reducible refine Need.mk ?_)); focus (exact True.intro))
 | (with_reducible refine retK_n ?_)
 | ((with_reducible show condN _ _ _ _ _ _); first
 | ((with_reducible refine condN_t ?_ ?_) <;> (intro hc; (try simp only [zB, zC, reduceCtorEq] at hc); ((try (exfalso; omega)); (try (clear mk0 hf hw hg hbs hsw hig; have hin : inS x.m s := (by show s < 2 ^ x.m; omega); have hbi := bst_in (w := worC) (g := (isC x)) (m := x.m) (s := s) hsI; have hs1 := inS_lt hm hin; have hsw := u_s1 hs1; rcases bst_cs worC (isC x) s with ⟨hf, hw, hg, hbs⟩ | ⟨hf, hw, hg, hbs⟩ | ⟨hf, hw, hg, hbs⟩ | ⟨hf, hw, hg, hbs⟩ | ⟨hf, hw, hg, hbs⟩; all_goals (first | (have hig := is_c hg) | (have hig := hw)))); (try (clear mk1; have e0 : s = 2 ^ x.m := (by omega); subst e0; have hbi := bst_in (w := worC) (g := (isC x)) (m := x.m) (s := 2 ^ x.m) hsI))); (try (exfalso; contradiction)))))
 | ((with_reducible refine And.intro ?_ ?_); focus ((with_reducible show chkR _ _ _ = true); kernel_rfl))
 | ((with_reducible show callN _ _ _ _ _ _ _ _ _ _); first
 | (refine callN_q (k := 37) fnok_37 (opn_t x hx he) ?_ ?_)
 | (refine callN_q (k := 58) fnok_58 (all_p (opY x) (opY_ok hx he)) ?_ ?_)
 | (refine callN_q (k := 50) fnok_50 (worC_p (bst worC (isC x) s).1 s (inS_lt hm hbi) (inS_lt hm hin)) ?_ ?_)
 | (refine callN_q (k := 53) fnok_53 (wri_p (opY x) (opY_ok hx he) (bst worC (isC x) (2 ^ x.m)).1 hbi) ?_ ?_)
 | ((refine callN_i (k := 46) Tryz.func46 rfl fnok_46 (by rw [Tryz.ntmps46]; simp) ?_ ?_ (fun K hK => ?_)); (focus (exact True.intro)); (focus ((simp [lsF]; done))); simp only [Tryz.ntmps46, List.map_cons, List.map_nil, List.nil_append, List.cons_append, List.append_nil, LV.tv, argEnv, Nat.zero_add, Nat.reduceAdd])
 | ((refine callN_ic (k := 80) Tryz.func80 rfl fnok_80 (by rw [Tryz.ntmps80]; simp) ?_ ?_ (fun K hK => ?_)); (focus (exact True.intro)); (focus ((simp [lsF]; done))); simp only [Tryz.ntmps80, List.map_cons, List.map_nil, List.nil_append, List.cons_append, List.append_nil, LV.tv, argEnv, Nat.zero_add, Nat.reduceAdd])
 | ((refine callN_ic (k := 47) Tryz.func47 rfl fnok_47 (by rw [Tryz.ntmps47]; simp) ?_ ?_ (fun K hK => ?_)); (focus (exact True.intro)); (focus ((simp [lsF]; done))); simp only [Tryz.ntmps47, List.map_cons, List.map_nil, List.nil_append, List.cons_append, List.append_nil, LV.tv, argEnv, Nat.zero_add, Nat.reduceAdd]))
 | ((with_reducible show callDN _ _ _ _ _ _ _ _ _ _ _ _ _); first
 | (refine callDN_q (k := 48) fnok_48 (beh_p (opY x) (opY_ok hx he) (cloN (opP x) s) (clo_in he hin)) ?_ ?_)
 | (refine callDN_q (k := 49) fnok_49 (clo_p (opY x) (opY_ok hx he) s hin) ?_ ?_))
 | ((with_reducible refine hR5 _ (s + 1) ?_); (try clear hR5 KR))
 | ((with_reducible refine Told.mk ?_); simp only [go_sem, reduceIte, reduceCtorEq, xA, xL, xD, xE, xM, xS, xB, opY_x, he, hf, hw, hbs, hsw, hig, bst_0] <;> ((((try simp (disch := omega) only [seaWrap, Int.natCast_add, Int.cast_ofNat_Int, and_true, true_and, and_self]); (repeat' (omega)); done))))
 | ((fail_if_success (with_reducible show AW _ _ _ _)); simp (maxSteps := 2000000) only [go_sem, reduceIte, reduceCtorEq, xA, xL, xD, xE, xM, xS, xB, Tryz.f21, Tryz.f46, Tryz.f80, Tryz.f47, opY_x, he, hf, hw, hbs, hsw, hig, bst_0])
 | ((with_reducible refine hK _ ?_); clear hK K)
 | (with_reducible apply_assumption -exfalso only [*]))
  all_goals first
    | (unfold coL coE coB; rw [if_pos he, if_pos he, if_pos hc, if_pos hc]; exact ⟨⟨(wrL_len _ _).symm, fun i o _ _ => IV.eqv_refl _⟩, rfl⟩)
    | (unfold coL coE coB; rw [if_pos he, if_pos he, if_neg (by rw [hc]; simp), if_neg (by rw [hc]; simp)]; exact ⟨rfl, rfl⟩)
    | skip
theorem core_p (x : CaS) (hx : x.Ok) : CallsP Tryz.prog 21 [.one (.lst 9 x.n (featF x.f)), .one (.lst 2 x.m (stF x.S)), .one (.lst 1 x.mo (ptF x.O))] (.tup [.one (.lst 1 (coL x).length (intI (zL (coL x)))), .one (.g (.int .i64 (coE x)))]) := by
  by_cases he : cvE x = 0
  · exact core_t x hx he
  · exact core_f x hx he
theorem rep_f (x : CaS) (hx : x.Ok) (he : cvE x ≠ 0) : CallsP Tryz.prog 24 [.one (.lst 9 x.n (featF x.f)), .one (.lst 2 x.m (stF x.S)), .one (.lst 1 x.mo (ptF x.O))] (.tup [.one (.lst 1 (rpL x).length (intI (zL (rpL x)))), .one (.g (.int .i64 (cvE x)))]) := by
  refine CallsP_of Tryz.func24 rfl (by rw [Tryz.ntmps24]; simp) ?_
  simp only [Tryz.ntmps24, zM, PT.tv, argEnv, Nat.zero_add, Nat.reduceAdd]
  repeat' (first
 | ((with_reducible show AW _ _ _ _); first
 | (with_reducible first | refine aS (fun K hK => ?_) | refine aT ?_ | refine aC ?_)
 | (first
 | (with_reducible first | refine aP 0 [0,1,2] ?_ | refine aP 1 [0,1,2] ?_ | refine aP 2 [8,9] ?_ | refine aP 3 [9] ?_)))
 | (((with_reducible refine Need.mk ?_)); focus (exact True.intro))
 | (with_reducible refine retK_n ?_)
 | ((with_reducible show condN _ _ _ _ _ _); first
 | ((with_reducible refine condN_t ?_ ?_) <;> (intro hc; (try simp only [zB, zC, reduceCtorEq] at hc); ((try (exfalso; omega))); (try (exfalso; contradiction)))))
 | ((with_reducible show callN _ _ _ _ _ _ _ _ _ _); first
 | (refine callN_q (k := 37) fnok_37 (opn_f x hx he) ?_ ?_))
 | ((fail_if_success (with_reducible show AW _ _ _ _)); simp (maxSteps := 2000000) only [go_sem, reduceIte, reduceCtorEq, xA, xL, xD, xE, xM, xS, xB, Tryz.f24])
 | ((with_reducible refine hK _ ?_); clear hK K))
  all_goals ((unfold rpL; rw [if_neg he]; rfl))
theorem is_r {x : CaS} {s : Nat} {b : Bool} (h : isR x s = b) : behB (opY x) s = b := h
theorem rep_t (x : CaS) (hx : x.Ok) (he : cvE x = 0) : CallsP Tryz.prog 24 [.one (.lst 9 x.n (featF x.f)), .one (.lst 2 x.m (stF x.S)), .one (.lst 1 x.mo (ptF x.O))] (.tup [.one (.lst 1 (rpL x).length (intI (zL (rpL x)))), .one (.g (.int .i64 (cvE x)))]) := by
  obtain ⟨_, _, _, _, hm, _⟩ := cv_ok he
  have h2p : 0 < 2 ^ x.m := Nat.pow_pos (by decide)
  have mk0 : True := trivial
  have mk1 : True := trivial
  have hf : True := trivial
  have hw : True := trivial
  have hg : True := trivial
  have hbs : True := trivial
  have hsw : True := trivial
  have hig : True := trivial
  refine CallsP_of Tryz.func24 rfl (by rw [Tryz.ntmps24]; simp) ?_
  simp only [Tryz.ntmps24, zM, PT.tv, argEnv, Nat.zero_add, Nat.reduceAdd]
  repeat' (first
 | ((with_reducible show callGK _ _ false _ _ _ _); (with_reducible refine callGK_s (fun h => by cases h) (fun _ => ?_)))
 | ((with_reducible show callGK _ _ true (Oper.mk _ (Op.call _) _ _ _ _) _ _ _); (with_reducible refine callGK_s (fun _ => ?_) (fun h => by cases h)))
 | ((with_reducible show AW _ _ _ _); first
 | (with_reducible first | refine aS (fun K hK => ?_) | refine aI ?_ | refine aX ?_ | refine aT ?_ | refine aC ?_ | refine aB ?_)
 | (first
 | (with_reducible first | refine aP (ops := #[⟨some 6, _, _, _, _, _⟩, _]) 0 [0,1,2] ?_ | refine aP (ops := #[⟨some 4, _, _, _, _, _⟩, _, _, _]) 0 [0,1,2] ?_ | refine aP (ops := #[⟨some 6, _, _, _, _, _⟩, _, _, _, _, _, _, _, _, _, _, _, _]) 0 [0,1,2,3,4] ?_ | refine aP (ops := #[⟨some 3, _, _, _, _, _⟩]) 0 [0,1] ?_ | refine aP (ops := #[⟨some 13, _, _, _, _, _⟩, _, _, _, _, _, _, _, _, _]) 1 [0,1,2] ?_ | refine aP (ops := #[⟨some 8, _, _, _, _, _⟩]) 1 [0,4,5] ?_ | refine aP (ops := #[⟨some 19, _, _, _, _, _⟩, _, _]) 1 [0,1,3] ?_ | refine aP (ops := #[⟨some 7, _, _, _, _, _⟩, _, _, _, _, _, _, _]) 1 [0,1] ?_ | refine aP (ops := #[⟨some 19, _, _, _, _, _⟩, _]) 2 [8,9] ?_ | refine aP (ops := #[⟨some 9, _, _, _, _, _⟩, _]) 2 [0,4,5,8] ?_ | refine aP (ops := #[⟨some 12, _, _, _, _, _⟩, _]) 2 [5] ?_ | refine aP (ops := #[⟨some 12, _, _, _, _, _⟩, _]) 3 [0,4,5,8,9] ?_ | refine aP (ops := #[⟨some 23, _, _, _, _, _⟩, _, _, _, _, _, _, _]) 4 [8] ?_ | refine aP (ops := #[⟨some 11, _, _, _, _, _⟩]) 4 [0,8,9,10] ?_ | refine aP (ops := #[⟨some 28, _, _, _, _, _⟩, _, _, _, _]) 5 [8,10] ?_ | refine aP (ops := #[⟨some 13, _, _, _, _, _⟩, _, _, _]) 5 [0,8,9,10,11] ?_ | refine aP 6 [0,8,9,10,11] ?_ | refine aP 7 [0,8,9,10,11] ?_)
 | ((with_reducible refine aR (c := Code.region 8 _ true) [8,9] ?_); (with_reducible refine aD ?_ ?_ ?_ ?_); (focus kernel_rfl); (focus kernel_rfl); (focus kernel_rfl)))
 | ((with_reducible show AW _ (Code.loop _) _ _); first
 | ((with_reducible refine aL (c := (Code.seq (Code.seq (Code.region 5 _ _) _) _)) (ι := Nat) [0,8,9,10] (fun s => [(11, .t (.one (.iv (.g (.int .u64 (s : Int))))))]) (fun s => [(3, [.iv (.g (.int .u64 ((bst worR (isR x) s).1 : Nat)))]), (4, [.iv (.g (.bool (bst worR (isR x) s).2))])]) (fun s => s ≤ 2 ^ x.m) (fun s => 2 ^ x.m - s) 0 ?lg5 ?l15 ?l25 ?li5 ?lr5); (case' lg5 => rintro s _); (case' li5 => try (exact Nat.zero_le _)); (case' lr5 => rintro s hsI KR hR5; simp only [keepE, hupd, hset, lk, if_true, if_false, xE, reduceIte, zN, opY_x, he, hf, hw, hbs, hsw, hig, bst_0]))))
 | ((first | (with_reducible refine And.intro ?_ ?_) | (with_reducible refine Need.mk ?_)); focus (exact True.intro))
 | (with_reducible refine retK_n ?_)
 | ((with_reducible show condN _ _ _ _ _ _); first
 | ((with_reducible refine condN_t ?_ ?_) <;> (intro hc; (try simp only [zB, zC, reduceCtorEq] at hc); ((try (exfalso; omega)); (try (clear mk0 hf hw hg hbs hsw hig; have hin : inS x.m s := (by show s < 2 ^ x.m; omega); have hbi := bst_in (w := worR) (g := (isR x)) (m := x.m) (s := s) hsI; have hs1 := inS_lt hm hin; have hsw := u_s1 hs1; rcases bst_cs worR (isR x) s with ⟨hf, hw, hg, hbs⟩ | ⟨hf, hw, hg, hbs⟩ | ⟨hf, hw, hg, hbs⟩ | ⟨hf, hw, hg, hbs⟩ | ⟨hf, hw, hg, hbs⟩; all_goals (first | (have hig := is_r hg) | (have hig := hw)))); (try (clear mk1; have e0 : s = 2 ^ x.m := (by omega); subst e0; have hbi := bst_in (w := worR) (g := (isR x)) (m := x.m) (s := 2 ^ x.m) hsI))); (try (exfalso; contradiction)))))
 | ((with_reducible refine And.intro ?_ ?_); focus ((with_reducible show chkR _ _ _ = true); kernel_rfl))
 | ((with_reducible show callN _ _ _ _ _ _ _ _ _ _); first
 | (refine callN_q (k := 37) fnok_37 (opn_t x hx he) ?_ ?_)
 | (refine callN_q (k := 58) fnok_58 (all_p (opY x) (opY_ok hx he)) ?_ ?_)
 | (refine callN_q (k := 48) fnok_48 (beh_p (opY x) (opY_ok hx he) s hin) ?_ ?_)
 | (refine callN_q (k := 57) fnok_57 (worR_p (bst worR (isR x) s).1 s (inS_lt hm hbi) (inS_lt hm hin)) ?_ ?_)
 | (refine callN_q (k := 53) fnok_53 (wri_p (opY x) (opY_ok hx he) (bst worR (isR x) (2 ^ x.m)).1 hbi) ?_ ?_)
 | ((refine callN_i (k := 46) Tryz.func46 rfl fnok_46 (by rw [Tryz.ntmps46]; simp) ?_ ?_ (fun K hK => ?_)); (focus (exact True.intro)); (focus ((simp [lsF]; done))); simp only [Tryz.ntmps46, List.map_cons, List.map_nil, List.nil_append, List.cons_append, List.append_nil, LV.tv, argEnv, Nat.zero_add, Nat.reduceAdd])
 | ((refine callN_ic (k := 80) Tryz.func80 rfl fnok_80 (by rw [Tryz.ntmps80]; simp) ?_ ?_ (fun K hK => ?_)); (focus (exact True.intro)); (focus ((simp [lsF]; done))); simp only [Tryz.ntmps80, List.map_cons, List.map_nil, List.nil_append, List.cons_append, List.append_nil, LV.tv, argEnv, Nat.zero_add, Nat.reduceAdd])
 | ((refine callN_ic (k := 56) Tryz.func56 rfl fnok_56 (by rw [Tryz.ntmps56]; simp) ?_ ?_ (fun K hK => ?_)); (focus (exact True.intro)); (focus ((simp [lsF]; done))); simp only [Tryz.ntmps56, List.map_cons, List.map_nil, List.nil_append, List.cons_append, List.append_nil, LV.tv, argEnv, Nat.zero_add, Nat.reduceAdd]))
 | ((with_reducible refine hR5 _ (s + 1) ?_); (try clear hR5 KR))
 | ((with_reducible refine Told.mk ?_); simp only [go_sem, reduceIte, reduceCtorEq, xA, xL, xD, xE, xM, xS, xB, opY_x, he, hf, hw, hbs, hsw, hig, bst_0] <;> ((((try simp (disch := omega) only [seaWrap, Int.natCast_add, Int.cast_ofNat_Int, and_true, true_and, and_self]); (repeat' (omega)); done))))
 | ((fail_if_success (with_reducible show AW _ _ _ _)); simp (maxSteps := 2000000) only [go_sem, reduceIte, reduceCtorEq, xA, xL, xD, xE, xM, xS, xB, Tryz.f24, Tryz.f46, Tryz.f80, Tryz.f56, opY_x, he, hf, hw, hbs, hsw, hig, bst_0])
 | ((with_reducible refine hK _ ?_); clear hK K)
 | (with_reducible apply_assumption -exfalso only [*]))
  all_goals first
    | (unfold rpL rpB; rw [if_pos he]; exact ⟨(wrL_len _ _).symm, fun i o _ _ => IV.eqv_refl _⟩)
    | skip
theorem rep_p (x : CaS) (hx : x.Ok) : CallsP Tryz.prog 24 [.one (.lst 9 x.n (featF x.f)), .one (.lst 2 x.m (stF x.S)), .one (.lst 1 x.mo (ptF x.O))] (.tup [.one (.lst 1 (rpL x).length (intI (zL (rpL x)))), .one (.g (.int .i64 (cvE x)))]) := by
  by_cases he : cvE x = 0
  · exact rep_t x hx he
  · exact rep_f x hx he
end Go.Proofs.YtmnejmpjmniiiaaGreatDoor
set_option maxRecDepth 100000
set_option maxHeartbeats 4000000
namespace Go.Proofs.YtmnejmpjmniiiaaGreatDoor
open Go.RowKit Go.Sea
open Nat renaming reduceAdd → xA, reduceLT → xL, reduceLeDiff → xD, reduceEqDiff → xE, reduceMul → xM, reduceSub → xS, reduceBEq → xB
theorem u_not {a b : Nat} (ha : a < 1024) (hb : b < 1024) : bits .andNot .u64 (a : Int) (b : Int) = ((a ^^^ (a &&& b) : Nat) : Int) := u_andNot (by omega) (by omega)
theorem opY_P (x : CaS) : (opY x).P = opP x := rfl
theorem bl_e {x : CaS} (h : cvE x ≠ 0) : (blL x).length = 0 ∧ cvE x = blE x := by unfold blL blE; rw [if_neg h, if_neg h]; exact ⟨rfl, rfl⟩
theorem bl_4 {x : CaS} (he : cvE x = 0) (h : behB (opY x) (2 ^ x.m - 1) = true) : (blL x).length = 0 ∧ 4 = blE x := by unfold blL blE; rw [if_pos he, if_pos he, if_pos h, if_pos h]; exact ⟨rfl, rfl⟩
theorem bl_0 {x : CaS} (he : cvE x = 0) (h : behB (opY x) (2 ^ x.m - 1) = false) : blL x = blI x x.m ∧ 0 = blE x := by unfold blL blE; rw [if_pos he, if_pos he, h]; exact ⟨rfl, rfl⟩
theorem blm_f (x : CaS) (hx : x.Ok) (he : cvE x ≠ 0) : CallsP Tryz.prog 26 [.one (.lst 9 x.n (featF x.f)), .one (.lst 2 x.m (stF x.S)), .one (.lst 1 x.mo (ptF x.O))] (.tup [.one (.lst 1 (blL x).length (intI (zL (blL x)))), .one (.g (.int .i64 (blE x)))]) := by
  refine CallsP_of Tryz.func26 rfl (by rw [Tryz.ntmps26]; simp) ?_
  simp only [Tryz.ntmps26, zM, PT.tv, argEnv, Nat.zero_add, Nat.reduceAdd]
  repeat' (first
 | ((with_reducible show AW _ _ _ _); first
 | (with_reducible first | refine aS (fun K hK => ?_) | refine AW_scope ?_ | refine aT ?_ | refine aC ?_)
 | ((with_reducible first | refine aP 0 [0,1,2] ?_ | refine aP 1 [0,1,2] ?_ | refine aP 2 [1,8,9] ?_ | refine aP 3 [9] ?_)))
 | ((first | (with_reducible refine And.intro ?_ ?_) | (with_reducible refine Need.mk ?_)); focus (exact True.intro))
 | (with_reducible refine retK_n ?_)
 | ((with_reducible show condN _ _ _ _ _ _); first
 | ((with_reducible refine condN_t ?_ ?_) <;> (intro hc; (try simp only [zB, zC, reduceCtorEq] at hc); ((try (exfalso; omega))); (try (exfalso; contradiction)))))
 | ((with_reducible show callN _ _ _ _ _ _ _ _ _ _); first
 | (refine callN_q (k := 37) fnok_37 (opn_f x hx he) ?_ ?_))
 | ((fail_if_success (with_reducible show AW _ _ _ _)); simp (maxSteps := 2000000) only [go_sem, reduceIte, reduceCtorEq, xA, xL, xD, xE, xM, xS, xB, Tryz.f26])
 | ((with_reducible refine hK _ ?_); clear hK K))
  all_goals (exact bl_e he)
theorem blm_t (x : CaS) (hx : x.Ok) (he : cvE x = 0) : CallsP Tryz.prog 26 [.one (.lst 9 x.n (featF x.f)), .one (.lst 2 x.m (stF x.S)), .one (.lst 1 x.mo (ptF x.O))] (.tup [.one (.lst 1 (blL x).length (intI (zL (blL x)))), .one (.g (.int .i64 (blE x)))]) := by
  obtain ⟨hv, _, _, _, hm, _⟩ := cv_ok he
  have h2p : 0 < 2 ^ x.m := Nat.pow_pos (by decide)
  have mk0 : True := trivial
  have mk1 : True := trivial
  have mk2 : True := trivial
  have hsh : True := trivial
  have hw0 : True := trivial
  have hs2 : True := trivial
  have hwk : True := trivial
  have hsr : True := trivial
  have ha1 : True := trivial
  refine CallsP_of Tryz.func26 rfl (by rw [Tryz.ntmps26]; simp) ?_
  simp only [Tryz.ntmps26, zM, PT.tv, argEnv, Nat.zero_add, Nat.reduceAdd]
  repeat' (first
 | (refine callK_shr rfl rfl (by omega) ?_)
 | (refine callK_shl rfl rfl (by omega) ?_)
 | (refine callDK_shl rfl rfl (by omega) ?_)
 | ((with_reducible show AW _ _ _ _); first
 | (with_reducible first | refine aS (fun K hK => ?_) | refine AW_label ?_ | refine AW_scope ?_ | refine aI ?_ | refine aX ?_ | refine aT ?_ | refine aC ?_ | refine aB ?_)
 | (first
 | (with_reducible first | refine aP 0 [0,1,2] ?_ | refine aP 1 [0,1,2] ?_ | refine aP 2 [1,8,9] ?_ | refine aP 4 [1,8] ?_ | refine aP 5 [1,8,11] ?_ | refine aP 6 [] ?_ | refine aP 7 [1,8] ?_ | refine aP 8 [1,8,12] ?_ | refine aP 9 [1,8,12,37,38] ?_ | refine aP 10 [1,8,12,37,38] ?_)
 | ((with_reducible refine aR (c := Code.region 11 _ true) [1,8,12,13,37,38] ?_); (with_reducible refine aD ?_ ?_ ?_ ?_); (focus kernel_rfl); (focus kernel_rfl); (focus kernel_rfl))
 | (with_reducible first | refine aP 12 [1,8,12,13,14,37,38] ?_ | refine aP 13 [1,8,12,13,14,37,38,47,48] ?_ | refine aP 14 [1,8,12,13,14,37,38,47,48] ?_ | refine aP 15 [1,8,12,13,14,15,37,38,47,48] ?_ | refine aP 16 [1,8,12,13,14,15,37,38,47,48] ?_ | refine aP 17 [1,8,12,13,14,37,38,47,48] ?_ | refine aP 18 [1,8,12,13,14,37,38] ?_ | refine aP 19 [1,8,12,13,17,37,38] ?_ | refine aP 20 [1,8,12,13,37,38] ?_ | refine aP 21 [1,8,12,37,38] ?_ | refine aP 22 [12] ?_))
 | ((with_reducible show AW _ (Code.loop _) _ _); first
 | ((with_reducible refine aL (c := (Code.seq (Code.region 9 _ _) _)) (ι := Nat) [1,8,37] (fun i => [(12, .t (.one (.slc 0 0 (blI x i).length 1))), (38, iA .i64 (i : Int))]) (fun i => [(0, rowI (blI x i))]) (fun i => i ≤ x.m) (fun i => x.m - i) 0 ?lg9 ?l19 ?l29 ?li9 ?lr9); (case' lg9 => rintro i _); (case' li9 => try (omega)); (case' lr9 => rintro i hi KR hR9; simp only [keepE, hupd, hset, lk, if_true, if_false, xE, reduceIte, zN, opY_x, opY_P, he, chC, chC3, chC1, uF0, stF0, stF1, maxLen, rowI_pur, rowI_snoc, rowI_len, blI_0, hsh, hw0, hs2, hwk, hsr, ha1]))
 | ((with_reducible refine aL (c := (Code.seq (Code.region 13 _ _) _)) (ι := Nat) [1,8,12,13,37,38,47] (fun k => [(14, .t (.one (.iv (.g (.int .u64 ((wthN (opP x) x.m i k) : Nat)))))), (48, iA .i64 (k : Int))]) (fun k => []) (fun k => k ≤ x.m) (fun k => x.m - k) 0 ?lg13 ?l113 ?l213 ?li13 ?lr13); (case' lg13 => rintro k _); (case' li13 => try (omega)); (case' lr13 => rintro k hk KR hR13; simp only [keepE, hupd, hset, lk, if_true, if_false, xE, reduceIte, zN, opY_x, opY_P, he, chC, chC3, chC1, uF0, stF0, stF1, maxLen, rowI_pur, rowI_snoc, rowI_len, blI_0, hsh, hw0, hs2, hwk, hsr, ha1]))))
 | ((first | (with_reducible refine And.intro ?_ ?_) | (with_reducible refine Need.mk ?_)); focus (first | exact True.intro | omega))
 | (with_reducible refine retK_n ?_)
 | ((with_reducible show condN _ _ _ _ _ _); first
 | ((with_reducible refine condN_t ?_ ?_) <;> (intro hc; (try simp only [zB, zC, reduceCtorEq] at hc); ((try (exfalso; omega)); (try (clear mk0 hsh hw0; have hil : i < x.m := (by omega); have hsh := u_shl6 (k := i) (by omega); have hw0 := u_not (a := 2 ^ x.m - 1) (b := 2 ^ i) (inS_lt hm (all_in x.m)) (p2_lt (by omega)); have hle := blI_le x i)); (try (clear mk1 hs2 hwk hsr ha1; have hkl : k < x.m := (by omega); have hp2 : opP x k < 1024 := lt2_10 (k := k) (by omega) (pstN_lt hv hm hkl); have hs2 := u_shl6 (k := k) (by omega); have hwk := u_not (a := (wthN (opP x) x.m i k)) (b := 2 ^ k) (inS_lt hm (wth_in k)) (p2_lt (by omega)); have hsr := u_shr6 (opP x k) i (by omega); have ha1 := u_and1 (shr_lt i (x := opP x k) (by omega)))); (try (clear mk2; have ek : k = x.m := (by omega); subst ek))); (try (exfalso; contradiction)))))
 | ((with_reducible refine And.intro ?_ ?_); focus ((with_reducible show chkR _ _ _ = true); kernel_rfl))
 | ((with_reducible show callN _ _ _ _ _ _ _ _ _ _); first
 | (refine callN_q (k := 37) fnok_37 (opn_t x hx he) ?_ ?_)
 | (refine callN_q (k := 58) fnok_58 (all_p (opY x) (opY_ok hx he)) ?_ ?_)
 | (refine callN_q (k := 48) fnok_48 (beh_p (opY x) (opY_ok hx he) (2 ^ x.m - 1) (all_in x.m)) ?_ ?_)
 | (refine callN_q (k := 48) fnok_48 (beh_p (opY x) (opY_ok hx he) (wthN (opP x) x.m i x.m) (wth_in _)) ?_ ?_))
 | ((with_reducible show callDN _ _ _ _ _ _ _ _ _ _ _ _ _); first
 | (refine callDN_q (k := 58) fnok_58 (all_p (opY x) (opY_ok hx he)) ?_ ?_))
 | ((with_reducible refine hR9 _ (i + 1) ?_); (try clear hR9 KR))
 | ((with_reducible refine hR13 _ (k + 1) ?_); (try clear hR13 KR))
 | ((with_reducible refine Told.mk ?_); simp only [go_sem, reduceIte, reduceCtorEq, xA, xL, xD, xE, xM, xS, xB, opY_x, opY_P, he, chC, chC3, chC1, uF0, stF0, stF1, intI, maxLen, rowI_pur, rowI_snoc, rowI_len, blI_0, hsh, hw0, hs2, hwk, hsr, ha1] <;> (first | (((try simp (disch := omega) only [seaWrap, Int.natCast_add, Int.cast_ofNat_Int, and_true, true_and, and_self]); (repeat' (first | omega | rfl | (with_reducible refine And.intro ?_ ?_) | ((exact wkC_eq rfl (rowI_iv _))) | ((rw [blI_t (by assumption)]; first | exact wkC_eq rfl (rowI_iv _) | (simp; done))) | ((rw [blI_f (by assumption)]; exact wkC_eq rfl (rowI_iv _))) | ((rw [blI_f (by assumption)])))); done)) | (((try simp (disch := omega) only [seaWrap, Int.natCast_add, Int.cast_ofNat_Int, and_true, true_and, and_self]); (repeat' (first | omega | (with_reducible refine And.intro ?_ ?_) | ((exact wkC_eq rfl (rowI_iv _))) | ((rw [wth_t (bit_t (by assumption))])) | ((rw [wth_f (bit_f (by assumption))])))); done))))
 | ((fail_if_success (with_reducible show AW _ _ _ _)); simp (maxSteps := 2000000) only [go_sem, reduceIte, reduceCtorEq, xA, xL, xD, xE, xM, xS, xB, Tryz.f26, opY_x, opY_P, he, chC, chC3, chC1, uF0, stF0, stF1, intI, maxLen, rowI_pur, rowI_snoc, rowI_len, blI_0, hsh, hw0, hs2, hwk, hsr, ha1])
 | ((with_reducible refine hK _ ?_); clear hK K)
 | (with_reducible apply_assumption -exfalso only [*]))
  all_goals first
    | exact bl_4 he (by assumption)
    | (have e0 : i = x.m := (by omega); subst e0; have e := bl_0 he (by assumption); rw [e.1]; exact ⟨fun c hc9 => (by have := rowI_iv _ c hc9; cases c <;> trivial), ⟨rfl, fun i o hi ho => row_zL _ i o hi ho⟩, e.2⟩)
    | skip
theorem blm_p (x : CaS) (hx : x.Ok) : CallsP Tryz.prog 26 [.one (.lst 9 x.n (featF x.f)), .one (.lst 2 x.m (stF x.S)), .one (.lst 1 x.mo (ptF x.O))] (.tup [.one (.lst 1 (blL x).length (intI (zL (blL x)))), .one (.g (.int .i64 (blE x)))]) := by
  by_cases he : cvE x = 0
  · exact blm_t x hx he
  · exact blm_f x hx he
end Go.Proofs.YtmnejmpjmniiiaaGreatDoor
namespace Go.Proofs.YtmnejmpjmniiiaaGreatDoor
open Go.RowKit Go.Sea
def opZ (kd d s : Int) (f : Feat) : OpS := ⟨kd, 1, f, 0, 0, 0, d, s⟩
def wrkF (d s : Int) : Feat := ⟨1, 2, 0, 0, 0, 0, fun _ _ => 0, d, s, 0, fun _ _ => 0⟩
def g1 (x : Int) (_ : Nat) : Int := x
def g2 (x y : Int) (i : Nat) : Int := if i = 0 then x else y
def g3 (x y z : Int) (i : Nat) : Int := if i = 0 then x else if i = 1 then y else z
def exS : Nat → StepS
  | 0 => ⟨1, 0, fun _ => 0⟩
  | 1 => ⟨2, 0, fun _ => 0⟩
  | 2 => ⟨3, 1, g1 1⟩
  | 3 => ⟨4, 0, fun _ => 0⟩
  | _ => ⟨5, 1, g1 4⟩
def exO : Nat → PtS
  | 0 => ⟨1, fun _ => opZ 4 20 0 feat0⟩
  | 1 => ⟨1, fun _ => opZ 5 0 5 feat0⟩
  | 2 => ⟨1, fun _ => opZ 4 25 0 feat0⟩
  | 3 => ⟨1, fun _ => opZ 2 0 0 feat0⟩
  | _ => ⟨1, fun _ => opZ 1 0 0 (wrkF 10 0)⟩
def exF (_ : Nat) : Feat := wrkF 30 0
def exC : CaS := ⟨1, exF, 5, exS, 5, exO⟩
def ex0 : CaS := ⟨0, exF, 5, exS, 5, exO⟩
def ex1 : CaS := ⟨0, exF, 1, exS, 1, exO⟩
theorem hd_c : cvE exC = 0 ∧ cvE ex0 = 0 ∧ cvE ex1 = 0 := ⟨by decide +kernel, by decide +kernel, by decide +kernel⟩
theorem hd_s1 : askE exC 3 (g3 1 2 3) = 0 ∧ askB exC 3 (g3 1 2 3) = true := ⟨by decide +kernel, by decide +kernel⟩
theorem hd_s2 : askE exC 1 (g1 3) = 0 ∧ askB exC 1 (g1 3) = false := ⟨by decide +kernel, by decide +kernel⟩
theorem hd_s3 : askE exC 2 (g2 4 5) = 0 ∧ askB exC 2 (g2 4 5) = true := ⟨by decide +kernel, by decide +kernel⟩
theorem hd_s4 : askE exC 2 (g2 1 4) = 0 ∧ askB exC 2 (g2 1 4) = false := ⟨by decide +kernel, by decide +kernel⟩
theorem hd_r1 : reE exC 3 (g3 1 2 3) = 0 ∧ reN exC 3 (g3 1 2 3) = 1 := ⟨by decide +kernel, by decide +kernel⟩
theorem hd_r2 : reE exC 1 (g1 3) = 15 := by decide +kernel
theorem hd_co : coE exC = 0 ∧ coL exC = [1,4] := ⟨by decide +kernel, by decide +kernel⟩
theorem hd_bl : blE exC = 0 ∧ blL exC = [4] := ⟨by decide +kernel, by decide +kernel⟩
theorem hd_o : coE ex1 = 0 ∧ coL ex1 = [1] := ⟨by decide +kernel, by decide +kernel⟩
theorem hd_b : blE ex1 = 0 ∧ blL ex1 = [1] := ⟨by decide +kernel, by decide +kernel⟩
end Go.Proofs.YtmnejmpjmniiiaaGreatDoor
set_option maxRecDepth 100000
set_option maxHeartbeats 4000000
namespace Go.Proofs.YtmnejmpjmniiiaaGreatDoor
open Go.RowKit Go.Sea
open Nat renaming reduceAdd → xA, reduceLT → xL, reduceLeDiff → xD, reduceEqDiff → xE, reduceMul → xM, reduceSub → xS, reduceBEq → xB
def eqLI (n m : Nat) (s t : Nat → Int) : Bool := decide (n = m ∧ ∀ i, i < n → s i = t i)
def eqFI (n m : Nat) (f g : Nat → Feat) : Bool := decide (n = m ∧ ∀ i, i < n → feqB (f i) (g i) = true)
end Go.Proofs.YtmnejmpjmniiiaaGreatDoor
set_option maxRecDepth 100000
set_option maxHeartbeats 4000000
namespace Go.Proofs.YtmnejmpjmniiiaaGreatDoor
open Go.RowKit Go.Sea
open Nat renaming reduceAdd → xA, reduceLT → xL, reduceLeDiff → xD, reduceEqDiff → xE, reduceMul → xM, reduceSub → xS, reduceBEq → xB
theorem eqLI_n {n m : Nat} {s t : Nat → Int} (h : (n : Int) ≠ m) : false = eqLI n m s t := (decide_eq_false fun g => by omega).symm
theorem eqLI_f {n m : Nat} {s t : Nat → Int} {i : Nat} (hi : (i : Int) < n) (h : s i ≠ t i) : false = eqLI n m s t := (decide_eq_false fun g => h (g.2 i (by omega))).symm
theorem eqLI_t {n m : Nat} {s t : Nat → Int} {i : Nat} (h : (n : Int) = m) (hi : (n : Int) ≤ i) (g : ∀ j, j < i → s j = t j) : true = eqLI n m s t := (decide_eq_true ⟨by omega, fun k hk => g k (by omega)⟩).symm
theorem eqFI_n {n m : Nat} {f g : Nat → Feat} (h : (n : Int) ≠ m) : false = eqFI n m f g := (decide_eq_false fun e => by omega).symm
theorem eqFI_f {n m : Nat} {f g : Nat → Feat} {i : Nat} (hi : (i : Int) < n) (h : feqB (f i) (g i) = false) : false = eqFI n m f g := (decide_eq_false fun e => by rw [e.2 i (by omega)] at h; cases h).symm
theorem eqFI_t {n m : Nat} {f g : Nat → Feat} {i : Nat} (h : (n : Int) = m) (hi : (n : Int) ≤ i) (ha : ∀ j, j < i → feqB (f j) (g j) = true) : true = eqFI n m f g := (decide_eq_true ⟨by omega, fun k hk => ha k (by omega)⟩).symm
def hasL (q : Nat) (a : Nat → Int) (x : Int) : Bool := decide (∃ i, i < q ∧ a i = x)
theorem hasL_f {q : Nat} {a : Nat → Int} {x : Int} {i : Nat} (hi : (q : Int) ≤ i) (g : ∀ j, j < i → a j ≠ x) : false = hasL q a x := (decide_eq_false fun ⟨j, h1, h2⟩ => g j (by omega) h2).symm
theorem hasL_t {q : Nat} {a : Nat → Int} {x : Int} {i : Nat} (hi : (i : Int) < q) (h : a i = x) : true = hasL q a x := (decide_eq_true ⟨i, by omega, h⟩).symm
theorem ints18_p (n m : Nat) (s t : Nat → Int) (hn : n ≤ 9223372036854775807) (hm : m ≤ 9223372036854775807) : CallsP Tryz.prog 23 [.one (.lst 1 n (intI s)), .one (.lst 1 m (intI t))] (.t (.one (.g (.bool (eqLI n m s t))))) := by
  refine CallsP_of Tryz.func23 rfl (by rw [Tryz.ntmps23]; simp) ?_
  simp only [Tryz.ntmps23, zM, PT.tv, argEnv, Nat.zero_add, Nat.reduceAdd]
  repeat' (first
 | ((with_reducible show AW _ _ _ _); first
 | (with_reducible first | refine aS (fun K hK => ?_) | refine aI ?_ | refine aX ?_ | refine aT ?_ | refine aC ?_ | refine aB ?_)
 | (first
 | (with_reducible first | refine aP 0 [0,1] ?_ | refine aP 1 [0,1] ?_ | refine aP 2 [] ?_ | refine aP 3 [0,1] ?_ | refine aP 4 [0,1,5] ?_ | refine aP 5 [0,1,5] ?_)
 | ((with_reducible refine aR (c := Code.region 6 _ true) [0,1,5] ?_); (with_reducible refine aD ?_ ?_ ?_ ?_); (focus kernel_rfl); (focus kernel_rfl); (focus kernel_rfl))
 | (with_reducible first | refine aP 7 [] ?_ | refine aP 8 [] ?_))
 | ((with_reducible show AW _ (Code.loop _) _ _); first
 | ((with_reducible refine aL (c := (Code.seq (Code.seq (Code.region 4 _ _) _) _)) (ι := Nat) [0,1] (fun i => [(5, iA .i64 (i : Int))]) (fun i => []) (fun i => i ≤ n ∧ (∀ i', i' < i → s i' = t i')) (fun i => n - i) 0 ?lg4 ?l14 ?l24 ?li4 ?lr4); (case' lg4 => rintro i _); (case' li4 => try (exact ⟨Nat.zero_le _, fun i hi => absurd hi (Nat.not_lt_zero _)⟩)); (case' lr4 => rintro i ⟨hi, hai⟩ KR hR4; simp only [keepE, hupd, hset, lk, if_true, if_false, xE, reduceIte, zN]))))
 | (((with_reducible refine And.intro ?_ ?_)); focus (omega))
 | (with_reducible refine retK_n ?_)
 | ((with_reducible show condN _ _ _ _ _ _); first
 | ((with_reducible refine condN_t ?_ ?_) <;> (intro hc; (try simp only [zB, zC, reduceCtorEq] at hc); (try (exfalso; contradiction)))))
 | ((with_reducible refine And.intro ?_ ?_); focus ((with_reducible show chkR _ _ _ = true); kernel_rfl))
 | ((with_reducible refine hR4 _ (i + 1) ?_); (try clear hR4 KR))
 | ((with_reducible refine Told.mk ?_); simp only [go_sem, reduceIte, reduceCtorEq, xA, xL, xD, xE, xM, xS, xB, intI] <;> ((((try simp (disch := omega) only [seaWrap, Int.natCast_add, Int.cast_ofNat_Int, and_true, true_and, and_self]); (repeat' (first | omega | (with_reducible refine And.intro ?_ ?_) | (exact all_succ (by assumption) (by assumption)) )); done))))
 | ((fail_if_success (with_reducible show AW _ _ _ _)); simp (maxSteps := 2000000) only [go_sem, reduceIte, reduceCtorEq, xA, xL, xD, xE, xM, xS, xB, Tryz.f23, intI])
 | ((with_reducible refine hK _ ?_); clear hK K)
 | (with_reducible apply_assumption -exfalso only [*]))
  all_goals first | exact eqLI_n (by assumption) | exact eqLI_f (by assumption) hc | exact eqLI_t (by omega) (by assumption) hai | skip
theorem rhas_p (q : Nat) (a : Nat → Int) (x : Int) (hq : q ≤ 9223372036854775807) : CallsP Tryz.prog 28 [.one (.lst 1 q (intI a)), .one (.g (.int .i64 x))] (.t (.one (.g (.bool (hasL q a x))))) := by
  refine CallsP_of Tryz.func28 rfl (by rw [Tryz.ntmps28]; simp) ?_
  simp only [Tryz.ntmps28, zM, PT.tv, argEnv, Nat.zero_add, Nat.reduceAdd]
  repeat' (first
 | ((with_reducible show AW _ _ _ _); first
 | (with_reducible first | refine aS (fun K hK => ?_) | refine aI ?_ | refine aX ?_ | refine aT ?_ | refine aC ?_ | refine aB ?_)
 | (first
 | (with_reducible first | refine aP 0 [0,1] ?_ | refine aP 1 [0,1] ?_ | refine aP 2 [0,1,5] ?_ | refine aP 3 [0,1,5] ?_ | refine aP 4 [0,1,5] ?_ | refine aP 5 [] ?_ | refine aP 6 [] ?_))
 | ((with_reducible show AW _ (Code.loop _) _ _); first
 | ((with_reducible refine aL (c := (Code.seq (Code.seq (Code.region 2 _ _) _) _)) (ι := Nat) [0,1] (fun i => [(5, iA .i64 (i : Int))]) (fun i => []) (fun i => i ≤ q ∧ (∀ i', i' < i → a i' ≠ x)) (fun i => q - i) 0 ?lg2 ?l12 ?l22 ?li2 ?lr2); (case' lg2 => rintro i _); (case' li2 => try (exact ⟨Nat.zero_le _, fun i hi => absurd hi (Nat.not_lt_zero _)⟩)); (case' lr2 => rintro i ⟨hi, hai⟩ KR hR2; simp only [keepE, hupd, hset, lk, if_true, if_false, xE, reduceIte, zN]))))
 | (((with_reducible refine And.intro ?_ ?_)); focus (omega))
 | (with_reducible refine retK_n ?_)
 | ((with_reducible show condN _ _ _ _ _ _); first
 | ((with_reducible refine condN_t ?_ ?_) <;> (intro hc; (try simp only [zB, zC, reduceCtorEq] at hc); (try (exfalso; contradiction)))))
 | ((with_reducible refine hR2 _ (i + 1) ?_); (try clear hR2 KR))
 | ((with_reducible refine Told.mk ?_); simp only [go_sem, reduceIte, reduceCtorEq, xA, xL, xD, xE, xM, xS, xB, intI] <;> ((((try simp (disch := omega) only [seaWrap, Int.natCast_add, Int.cast_ofNat_Int, and_true, true_and, and_self]); (repeat' (first | omega | (with_reducible refine And.intro ?_ ?_) | (exact all_succ (by assumption) (by assumption)) )); done))))
 | ((fail_if_success (with_reducible show AW _ _ _ _)); simp (maxSteps := 2000000) only [go_sem, reduceIte, reduceCtorEq, xA, xL, xD, xE, xM, xS, xB, Tryz.f28, intI])
 | ((with_reducible refine hK _ ?_); clear hK K)
 | (with_reducible apply_assumption -exfalso only [*]))
  all_goals first | exact hasL_t (by assumption) hc | exact hasL_f (by assumption) hai | skip
theorem samel_p (n m : Nat) (f g : Nat → Feat) (hn : n ≤ 9223372036854775807) (hm : m ≤ 9223372036854775807) (hf : ∀ i, i < n → (f i).Ok) (hg : ∀ i, i < m → (g i).Ok) : CallsP Tryz.prog 19 [.one (.lst 9 n (featF f)), .one (.lst 9 m (featF g))] (.t (.one (.g (.bool (eqFI n m f g))))) := by
  refine CallsP_of Tryz.func19 rfl (by rw [Tryz.ntmps19]; simp) ?_
  simp only [Tryz.ntmps19, zM, PT.tv, argEnv, Nat.zero_add, Nat.reduceAdd]
  repeat' (first
 | ((with_reducible show AW _ _ _ _); first
 | (with_reducible first | refine aS (fun K hK => ?_) | refine aI ?_ | refine aX ?_ | refine aT ?_ | refine aC ?_ | refine aB ?_)
 | (first
 | (with_reducible first | refine aP 0 [0,1] ?_ | refine aP 1 [0,1] ?_ | refine aP 2 [] ?_ | refine aP 3 [0,1] ?_ | refine aP 4 [0,1,5] ?_ | refine aP 5 [0,1,5] ?_)
 | ((with_reducible refine aR (c := Code.region 6 _ true) [0,1,5] ?_); (with_reducible refine aD ?_ ?_ ?_ ?_); (focus kernel_rfl); (focus kernel_rfl); (focus kernel_rfl))
 | (with_reducible first | refine aP 7 [] ?_ | refine aP 8 [] ?_))
 | ((with_reducible show AW _ (Code.loop _) _ _); first
 | ((with_reducible refine aL (c := (Code.seq (Code.seq (Code.region 4 _ _) _) _)) (ι := Nat) [0,1] (fun i => [(5, iA .i64 (i : Int))]) (fun i => []) (fun i => i ≤ n ∧ (∀ i', i' < i → feqB (f i') (g i') = true)) (fun i => n - i) 0 ?lg4 ?l14 ?l24 ?li4 ?lr4); (case' lg4 => rintro i _); (case' li4 => try (exact ⟨Nat.zero_le _, fun i hi => absurd hi (Nat.not_lt_zero _)⟩)); (case' lr4 => rintro i ⟨hi, hai⟩ KR hR4; simp only [keepE, hupd, hset, lk, if_true, if_false, xE, reduceIte, zN]))))
 | ((first | (with_reducible refine And.intro ?_ ?_) | (with_reducible refine Need.mk ?_)); focus (first | exact True.intro | omega))
 | (with_reducible refine retK_n ?_)
 | ((with_reducible show condN _ _ _ _ _ _); first
 | ((with_reducible refine condN_t ?_ ?_) <;> (intro hc; (try simp only [zB, zC, reduceCtorEq] at hc); (try (exfalso; contradiction)))))
 | ((with_reducible refine And.intro ?_ ?_); focus ((with_reducible show chkR _ _ _ = true); kernel_rfl))
 | ((with_reducible show callDN _ _ _ _ _ _ _ _ _ _ _ _ _); first
 | (refine callDN_q (k := 45) fnok_45 (rfsame_p (f i) (g i) (hf i (by omega)) (hg i (by omega))) ?_ ?_))
 | ((with_reducible refine hR4 _ (i + 1) ?_); (try clear hR4 KR))
 | ((with_reducible refine Told.mk ?_); simp only [go_sem, reduceIte, reduceCtorEq, xA, xL, xD, xE, xM, xS, xB] <;> ((((try simp (disch := omega) only [seaWrap, Int.natCast_add, Int.cast_ofNat_Int, and_true, true_and, and_self]); (repeat' (first | omega | (with_reducible refine And.intro ?_ ?_) | (exact all_succ (by assumption) (by assumption)) )); done))))
 | ((fail_if_success (with_reducible show AW _ _ _ _)); simp (maxSteps := 2000000) only [go_sem, reduceIte, reduceCtorEq, xA, xL, xD, xE, xM, xS, xB, Tryz.f19])
 | ((with_reducible refine hK _ ?_); clear hK K)
 | (with_reducible apply_assumption -exfalso only [*]))
  all_goals first | exact eqFI_n (by assumption) | exact eqFI_f (by assumption) hc | exact eqFI_t (by omega) (by assumption) hai | skip
end Go.Proofs.YtmnejmpjmniiiaaGreatDoor
set_option maxRecDepth 100000
set_option maxHeartbeats 4000000
namespace Go.Proofs.YtmnejmpjmniiiaaGreatDoor
open Go.RowKit Go.Sea
open Nat renaming reduceAdd → xA, reduceLT → xL, reduceLeDiff → xD, reduceEqDiff → xE, reduceMul → xM, reduceSub → xS, reduceBEq → xB
theorem ar_29 : arD Tryz.prog 29 = none := by kernel_rfl
theorem bo_50 : boD Tryz.prog 50 = false := by kernel_rfl
theorem eq_50 : eqD Tryz.prog 50 = some (true, [.int .i64, .int .i64, .int .i64, .int .i64]) := by kernel_rfl
theorem fnok_36 : fnOk Tryz.prog 36 = true := by kernel_rfl
theorem fo_26 : fieldsOk Tryz.prog 26 = true := by kernel_rfl
theorem fo_48 : fieldsOk Tryz.prog 48 = true := by kernel_rfl
theorem le_29 : lenD Tryz.prog 29 = some true := by kernel_rfl
theorem pl_112_5 : placeF Tryz.prog 112 5 = some (14, 1) := by kernel_rfl
theorem pl_112_6 : placeF Tryz.prog 112 6 = some (15, 1) := by kernel_rfl
theorem pl_26_0 : placeF Tryz.prog 26 0 = some (0, 1) := by kernel_rfl
theorem pl_26_1 : placeF Tryz.prog 26 1 = some (1, 1) := by kernel_rfl
theorem pl_26_2 : placeF Tryz.prog 26 2 = some (2, 1) := by kernel_rfl
theorem pl_48_0 : placeF Tryz.prog 48 0 = some (0, 1) := by kernel_rfl
theorem pl_48_1 : placeF Tryz.prog 48 1 = some (1, 1) := by kernel_rfl
theorem pl_66_0 : placeF Tryz.prog 66 0 = some (0, 1) := by kernel_rfl
theorem pl_66_1 : placeF Tryz.prog 66 1 = some (1, 1) := by kernel_rfl
theorem pl_66_5 : placeF Tryz.prog 66 5 = some (6, 1) := by kernel_rfl
theorem pl_66_6 : placeF Tryz.prog 66 6 = some (7, 1) := by kernel_rfl
theorem ty_26 : tyD Tryz.prog 26 = some (true, 3) := by kernel_rfl
theorem ty_50 : tyD Tryz.prog 50 = some (true, 4) := by kernel_rfl
theorem zc_26 : zeroC Tryz.prog 26 = some [.iv (.g (.slice none 0 0)), .iv (.g (.slice none 0 0)), .iv (.g (.slice none 0 0))] := by kernel_rfl
theorem zc_54 : zeroC Tryz.prog 54 = some [.iv (.g (.slice none 0 0))] := by kernel_rfl
attribute [go_sem] ar_29 bo_50 eq_50 fnok_36 fo_26 fo_48 le_29 pl_112_5 pl_112_6 pl_26_0 pl_26_1 pl_26_2 pl_48_0 pl_48_1 pl_66_0 pl_66_1 pl_66_5 pl_66_6 ty_26 ty_50 zc_26 zc_54
def kF (V : Nat → Nat → Int) (i o : Nat) : IV := .g (.int .i64 (V i o))
theorem kF0 (V : Nat → Nat → Int) (i o : Nat) : kF V i o = .g (.int .i64 (V i o)) := rfl
abbrev keP (V W : Nat → Nat → Int) (i : Nat) : Prop := V i 0 = W i 0 ∧ V i 1 = W i 1 ∧ V i 2 = W i 2 ∧ V i 3 = W i 3
def keqB (n m : Nat) (V W : Nat → Nat → Int) : Bool := decide (n = m ∧ ∀ i, i < n → keP V W i)
theorem keq_n {n m : Nat} {V W : Nat → Nat → Int} (h : (n : Int) ≠ m) : false = keqB n m V W := (decide_eq_false fun g => h (by rw [g.1])).symm
theorem keq_f {n m : Nat} {V W : Nat → Nat → Int} {i : Nat} (hi : (i : Int) < n) (h : ¬ keP V W i) : false = keqB n m V W := (decide_eq_false fun g => h (g.2 i (by omega))).symm
theorem keq_t {n m : Nat} {V W : Nat → Nat → Int} {i : Nat} (h : (n : Int) = m) (hi : (n : Int) ≤ i) (g : ∀ j, j < i → keP V W j) : true = keqB n m V W := (decide_eq_true ⟨by omega, fun j hj => g j (by omega)⟩).symm
def clsI (x : CaS) (p : Nat × Nat) : Nat → Int
  | 0 => (x.S p.1).nu
  | 1 => (x.S p.2).nu
  | 2 => comX (x.O p.1).k (x.O p.1).o (x.O p.2).k (x.O p.2).o
  | _ + 3 => comY (x.O p.1).k (x.O p.1).o (x.O p.2).k (x.O p.2).o
def prV (x : CaS) (i o : Nat) : Int := clsI x ((opL x).getD i (0, 0)) o
theorem prC_kF (x : CaS) (i o : Nat) : prC x i o = kF (prV x) i o := by
  unfold prC prV kF
  rcases o with _ | _ | _ | o <;> rfl
theorem exC_ok : exC.Ok := ⟨by decide, fun i _ => ⟨by show (0 : Nat) ≤ _; decide, by show (0 : Nat) ≤ _; decide⟩, by decide, fun i _ => by show (exS i).q ≤ _; rcases i with _ | _ | _ | _ | i <;> first | decide | (show (1 : Nat) ≤ _; decide), by decide, fun i _ => by show (exO i).k ≤ _; rcases i with _ | _ | _ | _ | i <;> first | decide | (show (1 : Nat) ≤ _; decide), fun i _ j _ => by
  show ((exO i).o j).f.Ok
  rcases i with _ | _ | _ | _ | i
  · exact feat0_ok
  · exact feat0_ok
  · exact feat0_ok
  · exact feat0_ok
  · exact ⟨by show (0 : Nat) ≤ _; decide, by show (0 : Nat) ≤ _; decide⟩⟩
theorem ex0_ok : ex0.Ok := ⟨by decide, fun i h => absurd h (Nat.not_lt_zero i), exC_ok.m, exC_ok.q, exC_ok.mo, exC_ok.k, exC_ok.o⟩
theorem ex1_ok : ex1.Ok := ⟨by decide, fun i h => absurd h (Nat.not_lt_zero i), by decide, fun i h => exC_ok.q i (by show i < 5; have : i < 1 := h; omega), by decide, fun i h => exC_ok.k i (by show i < 5; have : i < 1 := h; omega), fun i h => exC_ok.o i (by show i < 5; have : i < 1 := h; omega)⟩
theorem rix_p (S : Nat → StepS) (m : Nat) (hm : m ≤ 9223372036854775807) (hq : ∀ i, i < m → (S i).q ≤ 9223372036854775807) (y : Int) : CallsP Tryz.prog 32 [.one (.lst 2 m (stF S)), .one (.g (.int .i64 y))] (.t (.one (.g (.int .i64 (ixV S m y))))) := by
  refine CallsP_of Tryz.func32 rfl (by rw [Tryz.ntmps32]; simp) ?_
  simp only [Tryz.ntmps32, zM, PT.tv, argEnv, Nat.zero_add, Nat.reduceAdd]
  repeat' (first
 | ((with_reducible show AW _ _ _ _); first
 | (with_reducible first | refine aS (fun K hK => ?_) | refine aI ?_ | refine aX ?_ | refine aT ?_ | refine aC ?_ | refine aB ?_)
 | (first
 | (with_reducible first | refine aP 0 [0,1] ?_ | refine aP 1 [0,1] ?_ | refine aP 2 [0,1,5] ?_ | refine aP 3 [0,1,5] ?_ | refine aP 4 [0,1,5] ?_ | refine aP 5 [5] ?_ | refine aP 6 [] ?_))
 | ((with_reducible show AW _ (Code.loop _) _ _); first
 | ((with_reducible refine aL (c := (Code.seq (Code.seq (Code.region 2 _ _) _) _)) (ι := Nat) [0,1] (fun t => [(5, iA .i64 (t : Int))]) (fun t => []) (fun t => t ≤ m ∧ (∀ t', t' < t → (S t').nu ≠ y)) (fun t => m - t) 0 ?lg2 ?l12 ?l22 ?li2 ?lr2); (case' lg2 => rintro t _); (case' li2 => try (exact ⟨Nat.zero_le _, fun i hi => absurd hi (Nat.not_lt_zero _)⟩)); (case' lr2 => rintro t ⟨hi, hai⟩ KR hR2; simp only [keepE, hupd, hset, lk, if_true, if_false, xE, reduceIte, zN, stF0, stF1]))))
 | (((with_reducible refine And.intro ?_ ?_)); focus (omega))
 | (with_reducible refine retK_n ?_)
 | ((with_reducible show condN _ _ _ _ _ _); first
 | ((with_reducible refine condN_t ?_ ?_) <;> (intro hc; (try simp only [zB, zC, reduceCtorEq] at hc); (try (exfalso; contradiction)))))
 | ((with_reducible refine hR2 _ (t + 1) ?_); (try clear hR2 KR))
 | ((with_reducible refine Told.mk ?_); simp only [go_sem, reduceIte, reduceCtorEq, xA, xL, xD, xE, xM, xS, xB, stF0, stF1, intI] <;> ((((try simp (disch := omega) only [seaWrap, Int.natCast_add, Int.cast_ofNat_Int, and_true, true_and, and_self]); (repeat' (first | omega | (with_reducible refine And.intro ?_ ?_) | (exact all_succ (by assumption) (by assumption)) )); done))))
 | ((fail_if_success (with_reducible show AW _ _ _ _)); simp (maxSteps := 2000000) only [go_sem, reduceIte, reduceCtorEq, xA, xL, xD, xE, xM, xS, xB, Tryz.f32, stF0, stF1, intI])
 | ((with_reducible refine hK _ ?_); clear hK K)
 | (with_reducible apply_assumption -exfalso only [*]))
  all_goals (first | exact ixV_h (by omega) hc hai | exact ixV_n (by omega) hai)
theorem sac_p (n m : Nat) (V W : Nat → Nat → Int) (hn : n ≤ 9223372036854775807) (hm : m ≤ 9223372036854775807) : CallsP Tryz.prog 14 [.one (.lst 4 n (kF V)), .one (.lst 4 m (kF W))] (.t (.one (.g (.bool (keqB n m V W))))) := by
  refine CallsP_of Tryz.func14 rfl (by rw [Tryz.ntmps14]; simp) ?_
  simp only [Tryz.ntmps14, zM, PT.tv, argEnv, Nat.zero_add, Nat.reduceAdd]
  repeat' (first
 | ((with_reducible show AW _ _ _ _); first
 | (with_reducible first | refine aS (fun K hK => ?_) | refine aI ?_ | refine aX ?_ | refine aT ?_ | refine aC ?_ | refine aB ?_)
 | (first
 | (with_reducible first | refine aP 0 [0,1] ?_ | refine aP 1 [0,1] ?_ | refine aP 2 [] ?_ | refine aP 3 [0,1] ?_ | refine aP 4 [0,1,5] ?_ | refine aP 5 [0,1,5] ?_)
 | ((with_reducible refine aR (c := Code.region 6 _ true) [0,1,5] ?_); (with_reducible refine aD ?_ ?_ ?_ ?_); (focus kernel_rfl); (focus kernel_rfl); (focus kernel_rfl))
 | (with_reducible first | refine aP 7 [] ?_ | refine aP 8 [] ?_))
 | ((with_reducible show AW _ (Code.loop _) _ _); first
 | ((with_reducible refine aL (c := (Code.seq (Code.seq (Code.region 4 _ _) _) _)) (ι := Nat) [0,1] (fun i => [(5, iA .i64 (i : Int))]) (fun i => []) (fun i => i ≤ n ∧ (∀ j, j < i → keP V W j)) (fun i => n - i) 0 ?lg4 ?l14 ?l24 ?li4 ?lr4); (case' lg4 => rintro i _); (case' li4 => try (exact ⟨Nat.zero_le _, fun i hi => absurd hi (Nat.not_lt_zero _)⟩)); (case' lr4 => rintro i ⟨hi, hai⟩ KR hR4; simp only [keepE, hupd, hset, lk, if_true, if_false, xE, reduceIte, zN, kF0]))))
 | (((with_reducible refine And.intro ?_ ?_)); focus (omega))
 | (with_reducible refine retK_n ?_)
 | ((with_reducible show condN _ _ _ _ _ _); first
 | ((with_reducible refine condN_t ?_ ?_) <;> (intro hc; (try simp only [zB, zC, reduceCtorEq] at hc); (try (exfalso; contradiction)))))
 | ((with_reducible refine And.intro ?_ ?_); focus ((with_reducible show chkR _ _ _ = true); kernel_rfl))
 | ((with_reducible refine hR4 _ (i + 1) ?_); (try clear hR4 KR))
 | ((with_reducible refine Told.mk ?_); simp only [go_sem, reduceIte, reduceCtorEq, xA, xL, xD, xE, xM, xS, xB, kF0] <;> ((((try simp (disch := omega) only [seaWrap, Int.natCast_add, Int.cast_ofNat_Int, and_true, true_and, and_self]); (repeat' (first | omega | (with_reducible refine And.intro ?_ ?_) | (exact all_succ (by assumption) (by assumption)))); done))))
 | ((fail_if_success (with_reducible show AW _ _ _ _)); simp (maxSteps := 2000000) only [go_sem, reduceIte, reduceCtorEq, xA, xL, xD, xE, xM, xS, xB, Tryz.f14, kF0])
 | ((with_reducible refine hK _ ?_); clear hK K)
 | (with_reducible apply_assumption -exfalso only [*]))
  all_goals (first | exact keq_n (by assumption) | exact keq_f (by assumption) (by unfold keP; omega) | exact keq_t (by omega) (by omega) hai)
theorem wre_p (d s : Int) : CallsP Tryz.prog 36 [.one (.g (.int .i64 d)), .one (.g (.int .i64 s))] (.t (.agg [.g (.int .i64 ((wrkF d s).id)), .g (.int .i64 ((wrkF d s).kd)), .g (.int .i64 ((wrkF d s).x)), .g (.int .i64 ((wrkF d s).y)), .g (.int .i64 ((wrkF d s).r)), .lst 2 (wrkF d s).n (ptI (wrkF d s).P), .g (.int .i64 ((wrkF d s).d)), .g (.int .i64 ((wrkF d s).s)), .lst 6 (wrkF d s).m (ptI (wrkF d s).S)])) := by
  refine CallsP_of Tryz.func36 rfl (by rw [Tryz.ntmps36]; simp) ?_
  simp only [Tryz.ntmps36, zM, PT.tv, argEnv, Nat.zero_add, Nat.reduceAdd]
  repeat' (first
 | ((with_reducible show AW _ _ _ _); first
 | (with_reducible first | refine aS (fun K hK => ?_) | refine aT ?_)
 | (first
 | (with_reducible first | refine aP 0 [0,1] ?_ | refine aP 1 [0,1,4] ?_)))
 | (with_reducible refine retK_n ?_)
 | ((fail_if_success (with_reducible show AW _ _ _ _)); simp (maxSteps := 2000000) only [go_sem, reduceIte, reduceCtorEq, xA, xL, xD, xE, xM, xS, xB, Tryz.f36])
 | ((with_reducible refine hK _ ?_); clear hK K))
  all_goals ((repeat' (first | rfl | exact ⟨rfl, rfl⟩ | (with_reducible refine And.intro ?_ ?_))))
theorem exa_p  : CallsP Tryz.prog 35 [] (.t (.agg [.lst 9 1 (featF exF), .lst 2 5 (stF exS), .lst 1 5 (ptF exO)])) := by
  refine CallsP_of Tryz.func35 rfl (by rw [Tryz.ntmps35]; simp) ?_
  simp only [Tryz.ntmps35, zM, PT.tv, argEnv, Nat.zero_add, Nat.reduceAdd]
  repeat' (first
 | ((with_reducible show AW _ _ _ _); first
 | (with_reducible first | refine aS (fun K hK => ?_) | refine aT ?_)
 | (first
 | (with_reducible first | refine aP 0 [] ?_ | refine aP 1 [0] ?_ | refine aP 2 [0,1] ?_ | refine AW_frz (c := Code.region 3 _ false) [1,2,3,4,5,6,7,8,9] ?_ (aP 3 [0,1,2] ?_))))
 | ((first | (with_reducible refine And.intro ?_ ?_) | (with_reducible refine Need.mk ?_)); focus (exact True.intro))
 | (with_reducible refine retK_n ?_)
 | ((with_reducible show callN _ _ _ _ _ _ _ _ _ _); first
 | (refine callN_q (k := 36) fnok_36 (wre_p 10 0) ?_ ?_)
 | (refine callN_q (k := 36) fnok_36 (wre_p 30 0) ?_ ?_))
 | ((fail_if_success (with_reducible show AW _ _ _ _)); simp (maxSteps := 2000000) only [go_sem, reduceIte, reduceCtorEq, xA, xL, xD, xE, xM, xS, xB, Tryz.f35])
 | ((with_reducible refine hK _ ?_); clear hK K))
  all_goals ((refine ⟨fun i u hi hu => ?_, fun i u hi hu => ?_, fun i u hi hu => ?_⟩; (obtain rfl : i = 0 := (by omega); rcases (by omega : u = 0 ∨ u = 1 ∨ u = 2 ∨ u = 3 ∨ u = 4 ∨ u = 5 ∨ u = 6 ∨ u = 7 ∨ u = 8) with rfl | rfl | rfl | rfl | rfl | rfl | rfl | rfl | rfl <;> first | rfl | exact IV.eqv_refl _); (rcases (by omega : i = 0 ∨ i = 1 ∨ i = 2 ∨ i = 3 ∨ i = 4) with rfl | rfl | rfl | rfl | rfl <;> rcases (by omega : u = 0 ∨ u = 1) with rfl | rfl <;> first | rfl | exact ⟨rfl, rfl⟩ | exact ⟨rfl, rfl, fun p q hp hq => (by obtain rfl : p = 0 := (by omega); obtain rfl : q = 0 := (by omega); rfl)⟩); (rcases (by omega : i = 0 ∨ i = 1 ∨ i = 2 ∨ i = 3 ∨ i = 4) with rfl | rfl | rfl | rfl | rfl <;> (obtain rfl : u = 0 := (by omega); refine ⟨rfl, rfl, fun p q hp hq => ?_⟩; obtain rfl : p = 0 := (by omega); rcases (by omega : q = 0 ∨ q = 1 ∨ q = 2 ∨ q = 3 ∨ q = 4 ∨ q = 5 ∨ q = 6 ∨ q = 7 ∨ q = 8 ∨ q = 9 ∨ q = 10 ∨ q = 11 ∨ q = 12 ∨ q = 13 ∨ q = 14 ∨ q = 15) with rfl | rfl | rfl | rfl | rfl | rfl | rfl | rfl | rfl | rfl | rfl | rfl | rfl | rfl | rfl | rfl <;> first | rfl | exact ⟨rfl, rfl⟩ | exact IV.eqv_refl _))))
end Go.Proofs.YtmnejmpjmniiiaaGreatDoor
namespace Go.Proofs.YtmnejmpjmniiiaaGreatDoor
open Go.RowKit Go.Sea
open Nat renaming reduceAdd → xA, reduceLT → xL, reduceLeDiff → xD, reduceEqDiff → xE, reduceMul → xM, reduceSub → xS, reduceBEq → xB
theorem fnok_12 : fnOk Tryz.prog 12 = true := by kernel_rfl
theorem fnok_14 : fnOk Tryz.prog 14 = true := by kernel_rfl
theorem fnok_15 : fnOk Tryz.prog 15 = true := by kernel_rfl
theorem fnok_17 : fnOk Tryz.prog 17 = true := by kernel_rfl
theorem fnok_19 : fnOk Tryz.prog 19 = true := by kernel_rfl
theorem fnok_21 : fnOk Tryz.prog 21 = true := by kernel_rfl
theorem fnok_23 : fnOk Tryz.prog 23 = true := by kernel_rfl
theorem fnok_24 : fnOk Tryz.prog 24 = true := by kernel_rfl
theorem fnok_26 : fnOk Tryz.prog 26 = true := by kernel_rfl
theorem fnok_35 : fnOk Tryz.prog 35 = true := by kernel_rfl
theorem of_26_0 : offOf Tryz.prog 26 0 = some 0 := by kernel_rfl
theorem of_26_1 : offOf Tryz.prog 26 1 = some 1 := by kernel_rfl
theorem of_26_2 : offOf Tryz.prog 26 2 = some 2 := by kernel_rfl
attribute [go_sem] fnok_12 fnok_14 fnok_15 fnok_17 fnok_19 fnok_21 fnok_23 fnok_24 fnok_26 fnok_35 of_26_0 of_26_1 of_26_2
theorem ints_q (q : Nat) (a : Nat → Int) (m : Nat) (G : Nat → Int) (F : Nat → Nat → IV) (hq : q ≤ 9223372036854775807) (hm : m ≤ 9223372036854775807) (h : ∀ i o, i < m → o < 1 → (F i o).eqv (.g (.int .i64 (G i)))) : CallsP Tryz.prog 23 [.one (.lst 1 q (intI a)), .one (.lst 1 m F)] (.t (.one (.g (.bool (eqLI q m a G))))) :=
  (ints18_p q m a G hq hm).eqv (args' := [.one (.lst 1 q (intI a)), .one (.lst 1 m F)]) ⟨IV.eqv_refl _, ⟨rfl, rfl, h⟩, trivial⟩ (PV.eqv_refl _)
theorem std_q (x : CaS) (hx : x.Ok) (q : Nat) (a : Nat → Int) (hqq : q ≤ 9223372036854775807) (F : Nat → Nat → IV) (h : ∀ i o, i < q → o < 1 → (F i o).eqv (.g (.int .i64 (a i)))) : CallsP Tryz.prog 15 [.one (.lst 9 x.n (featF x.f)), .one (.lst 2 x.m (stF x.S)), .one (.lst 1 x.mo (ptF x.O)), .one (.lst 1 q F)] (.tup [.one (.g (.bool (askB x q a))), .one (.g (.int .i64 (askE x q a)))]) :=
  (std_p x hx q a hqq).eqv ⟨PT.eqv_refl _, PT.eqv_refl _, PT.eqv_refl _, ⟨rfl, rfl, h⟩, trivial⟩ (PV.eqv_refl _)
theorem res_q (x : CaS) (hx : x.Ok) (q : Nat) (a : Nat → Int) (hqq : q ≤ 9223372036854775807) (F : Nat → Nat → IV) (h : ∀ i o, i < q → o < 1 → (F i o).eqv (.g (.int .i64 (a i)))) : CallsP Tryz.prog 17 [.one (.lst 9 x.n (featF x.f)), .one (.lst 2 x.m (stF x.S)), .one (.lst 1 x.mo (ptF x.O)), .one (.lst 1 q F)] (.tup [.one (.lst 9 (reN x q a) (featF (askF x q a))), .one (.g (.int .i64 (reE x q a)))]) :=
  (res_p x hx q a hqq).eqv ⟨PT.eqv_refl _, PT.eqv_refl _, PT.eqv_refl _, ⟨rfl, rfl, h⟩, trivial⟩ (PV.eqv_refl _)
theorem prs_q (x : CaS) (hx : x.Ok) (h0 : x.n = 0) : CallsP Tryz.prog 12 [.one (.lst 2 x.m (stF x.S)), .one (.lst 1 x.mo (ptF x.O))] (.tup [.one (.lst 4 (prN x) (kF (prV x))), .one (.g (.int .i64 (cvE x)))]) :=
  (prs_p x hx h0).eqv ⟨PT.eqv_refl _, PT.eqv_refl _, trivial⟩ ⟨⟨rfl, rfl, fun i o _ _ => by rw [prC_kF]; exact IV.eqv_refl _⟩, IV.eqv_refl _, trivial⟩
theorem core_q (x : CaS) (hx : x.Ok) (h0 : x.n = 0) (F G : Nat → Nat → IV) (hF : ∀ i o, i < x.m → o < 2 → (F i o).eqv (stF x.S i o)) (hG : ∀ i o, i < x.mo → o < 1 → (G i o).eqv (ptF x.O i o)) : CallsP Tryz.prog 21 [.one (.g (.slice none 0 0)), .one (.lst 2 x.m F), .one (.lst 1 x.mo G)] (.tup [.one (.lst 1 (coL x).length (intI (zL (coL x)))), .one (.g (.int .i64 (coE x)))]) :=
  (core_p x hx).eqv ⟨by rw [h0]; exact nil_eqv _, ⟨rfl, rfl, hF⟩, ⟨rfl, rfl, hG⟩, trivial⟩ (PV.eqv_refl _)
theorem blm_q (x : CaS) (hx : x.Ok) (h0 : x.n = 0) (F G : Nat → Nat → IV) (hF : ∀ i o, i < x.m → o < 2 → (F i o).eqv (stF x.S i o)) (hG : ∀ i o, i < x.mo → o < 1 → (G i o).eqv (ptF x.O i o)) : CallsP Tryz.prog 26 [.one (.g (.slice none 0 0)), .one (.lst 2 x.m F), .one (.lst 1 x.mo G)] (.tup [.one (.lst 1 (blL x).length (intI (zL (blL x)))), .one (.g (.int .i64 (blE x)))]) :=
  (blm_p x hx).eqv ⟨by rw [h0]; exact nil_eqv _, ⟨rfl, rfl, hF⟩, ⟨rfl, rfl, hG⟩, trivial⟩ (PV.eqv_refl _)
theorem sac_q (nn m : Nat) (V W : Nat → Nat → Int) (F : Nat → Nat → IV) (hn : nn ≤ 9223372036854775807) (hm : m ≤ 9223372036854775807) (h : ∀ i o, i < m → o < 4 → (F i o).eqv (kF W i o)) : CallsP Tryz.prog 14 [.one (.lst 4 nn (kF V)), .one (.lst 4 m F)] (.t (.one (.g (.bool (keqB nn m V W))))) :=
  (sac_p nn m V W hn hm).eqv ⟨IV.eqv_refl _, ⟨rfl, rfl, h⟩, trivial⟩ (PV.eqv_refl _)
theorem sal_q (nn m : Nat) (f g : Nat → Feat) (F : Nat → Nat → IV) (hn : nn ≤ 9223372036854775807) (hm : m ≤ 9223372036854775807) (hf : ∀ i, i < nn → (f i).Ok) (hg : ∀ i, i < m → (g i).Ok) (h : ∀ i o, i < m → o < 9 → (F i o).eqv (featF g i o)) : CallsP Tryz.prog 19 [.one (.lst 9 nn (featF f)), .one (.lst 9 m F)] (.t (.one (.g (.bool (eqFI nn m f g))))) :=
  (samel_p nn m f g hn hm hf hg).eqv ⟨IV.eqv_refl _, ⟨rfl, rfl, h⟩, trivial⟩ (PV.eqv_refl _)
def exV (i o : Nat) : Int := if o = 0 then (if i < 2 then 1 else if i < 4 then 2 else 3) else if o = 1 then (if i % 2 = 0 then 4 else 5) else 0
theorem hd_pq : prN ex0 = 6 ∧ keqB 6 6 (prV ex0) exV = true := ⟨by decide +kernel, by decide +kernel⟩
theorem hd_rq : eqFI 1 1 (askF exC 3 (g3 1 2 3)) (fun _ => wrkF 25 5) = true := by decide +kernel
theorem hd_cq : eqLI (coL exC).length 2 (zL (coL exC)) (g2 1 4) = true := by decide +kernel
theorem hd_req : eqLI (rpL exC).length 3 (zL (rpL exC)) (g3 1 2 3) = true := by decide +kernel
theorem hd_blq : eqLI (blL exC).length 1 (zL (blL exC)) (g1 4) = true := by decide +kernel
theorem hd_oq : eqLI (coL ex1).length 1 (zL (coL ex1)) (g1 1) = true := by decide +kernel
theorem hd_bq : eqLI (blL ex1).length 1 (zL (blL ex1)) (g1 1) = true := by decide +kernel
theorem hd_len : (coL exC).length = 2 ∧ (rpL exC).length = 3 ∧ (blL exC).length = 1 ∧ (coL ex1).length = 1 ∧ (blL ex1).length = 1 := ⟨by decide +kernel, by decide +kernel, by decide +kernel, by decide +kernel, by decide +kernel⟩
theorem hd_fok : ∀ i, i < 1 → (askF exC 3 (g3 1 2 3) i).Ok := fun i hi => by
  obtain rfl : i = 0 := by omega
  exact feat_ok (by decide +kernel)
theorem wrkF_ok (d s : Int) : (wrkF d s).Ok := ⟨by show (0 : Nat) ≤ _; decide, by show (0 : Nat) ≤ _; decide⟩
def L6 : List CV := [.iv (.g (.int .i64 1)), .iv (.g (.int .i64 4)), .iv (.g (.int .i64 0)), .iv (.g (.int .i64 0)), .iv (.g (.int .i64 1)), .iv (.g (.int .i64 5)), .iv (.g (.int .i64 0)), .iv (.g (.int .i64 0)), .iv (.g (.int .i64 2)), .iv (.g (.int .i64 4)), .iv (.g (.int .i64 0)), .iv (.g (.int .i64 0)), .iv (.g (.int .i64 2)), .iv (.g (.int .i64 5)), .iv (.g (.int .i64 0)), .iv (.g (.int .i64 0)), .iv (.g (.int .i64 3)), .iv (.g (.int .i64 4)), .iv (.g (.int .i64 0)), .iv (.g (.int .i64 0)), .iv (.g (.int .i64 3)), .iv (.g (.int .i64 5)), .iv (.g (.int .i64 0)), .iv (.g (.int .i64 0))]
theorem hd_D6 : ∀ i o, i < 6 → o < 4 → (civ (L6.getD (i * 4 + o) .any)).eqv (kF exV i o) := fun i o hi ho => by
  rcases (by omega : i = 0 ∨ i = 1 ∨ i = 2 ∨ i = 3 ∨ i = 4 ∨ i = 5) with rfl | rfl | rfl | rfl | rfl | rfl <;> rcases (by omega : o = 0 ∨ o = 1 ∨ o = 2 ∨ o = 3) with rfl | rfl | rfl | rfl <;> exact rfl
set_option maxRecDepth 100000 in
set_option maxHeartbeats 16000000 in
theorem head_p  : CallsP Tryz.prog 11 [] (.t (.one (.g (.bool true)))) := by
  refine CallsP_of Tryz.func11 rfl (by rw [Tryz.ntmps11]; simp) ?_
  simp only [Tryz.ntmps11, zM, PT.tv, argEnv, Nat.zero_add, Nat.reduceAdd]
  repeat' (first
 | ((with_reducible show callGN _ _ true _ _ _ _ _ _ _); (with_reducible refine callGN_sq (fun _ => ?_) (fun h => by cases h)))
 | ((with_reducible show callN _ _ (some 234) _ _ _ _ _ _ _); (refine callN_q (k := 23) fnok_23 (ints_q (coL exC).length (zL (coL exC)) 2 (g2 1 4) _ (by rw [hd_len.1]; decide) (by decide) (fun i o hi ho => by obtain rfl : o = 0 := (by omega); rcases (by omega : i = 0 ∨ i = 1) with rfl | rfl <;> rfl)) ?_ ?_))
 | ((with_reducible show callN _ _ (some 239) _ _ _ _ _ _ _); (refine callN_q (k := 23) fnok_23 (ints_q (rpL exC).length (zL (rpL exC)) 3 (g3 1 2 3) _ (by rw [hd_len.2.1]; decide) (by decide) (fun i o hi ho => by obtain rfl : o = 0 := (by omega); rcases (by omega : i = 0 ∨ i = 1 ∨ i = 2) with rfl | rfl | rfl <;> rfl)) ?_ ?_))
 | ((with_reducible show callN _ _ (some 244) _ _ _ _ _ _ _); (refine callN_q (k := 23) fnok_23 (ints_q (blL exC).length (zL (blL exC)) 1 (g1 4) _ (by rw [hd_len.2.2.1]; decide) (by decide) (fun i o hi ho => by obtain rfl : i = 0 := (by omega); obtain rfl : o = 0 := (by omega); rfl)) ?_ ?_))
 | ((with_reducible show callN _ _ (some 250) _ _ _ _ _ _ _); (refine callN_q (k := 23) fnok_23 (ints_q (coL ex1).length (zL (coL ex1)) 1 (g1 1) _ (by rw [hd_len.2.2.2.1]; decide) (by decide) (fun i o hi ho => by obtain rfl : i = 0 := (by omega); obtain rfl : o = 0 := (by omega); rfl)) ?_ ?_))
 | ((with_reducible show callN _ _ (some 255) _ _ _ _ _ _ _); (refine callN_q (k := 23) fnok_23 (ints_q (blL ex1).length (zL (blL ex1)) 1 (g1 1) _ (by rw [hd_len.2.2.2.2]; decide) (by decide) (fun i o hi ho => by obtain rfl : i = 0 := (by omega); obtain rfl : o = 0 := (by omega); rfl)) ?_ ?_))
 | ((with_reducible show callN _ _ (some 88) _ _ _ _ _ _ _); (refine callN_zq (k := 17) [5] ?_ ?_))
 | ((with_reducible show callN _ _ (some 99) _ _ _ _ _ _ _); (refine callN_zq (k := 17) [6] ?_ ?_))
 | ((with_reducible show callN _ _ (some 77) _ _ _ _ _ _ _); (refine callN_q (k := 15) fnok_15 (std_q exC exC_ok 2 (g2 1 4) (by decide) _ (fun i o hi ho => by obtain rfl : o = 0 := (by omega); rcases (by omega : i = 0 ∨ i = 1) with rfl | rfl <;> rfl)) ?_ ?_))
 | ((with_reducible show AW _ _ _ _); first
 | (with_reducible first | refine aS (fun K hK => ?_) | refine aT ?_)
 | (first
 | (with_reducible first | refine aP 0 [] ?_ | refine aP 1 [] ?_ | refine aP 2 [1] ?_ | refine aP 3 [1,2,3] ?_ | refine aP 4 [1,2,3,4,5] ?_ | refine aP 5 [1,2,3,4,5,6,7] ?_ | refine aP 6 [1,2,3,4,5,6,7,8,9] ?_ | refine aP 7 [1,2,3,4,5,6,7,8,9,10,11] ?_ | refine aP 8 [1,2,3,4,5,6,7,8,9,10,11,12,13] ?_ | refine aP 9 [1,2,3,4,5,6,7,8,9,10,11,12,13,15] ?_ | refine aP 10 [1,2,3,4,5,6,7,8,9,10,11,12,13,15,16,17] ?_ | refine aP 11 [1,2,3,4,5,6,7,8,9,10,11,12,13,15,16,17,18,19] ?_)
 | ((with_reducible refine aR (c := Code.region 12 _ true) [1,2,3,4,5,6,7,8,9,10,11,12,13,15,16,17,18,19,20,21] ?_); (with_reducible refine aD ?_ ?_ ?_ ?_); (focus kernel_rfl); (focus kernel_rfl); (focus kernel_rfl))
 | ((with_reducible refine aR (c := Code.region 13 _ true) [1,2,3,4,5,6,7,8,9,10,11,12,13,15,16,17,18,19,20,21,22,23] ?_); (with_reducible refine aD ?_ ?_ ?_ ?_); (focus kernel_rfl); (focus kernel_rfl); (focus kernel_rfl))
 | (with_reducible first | refine aP 14 [2,3,4,5,6,7,8,9,10,11,12,13,15,16,17,18,19,20,21,22,23,24,25] ?_ | refine aP 15 [2,4,6,8,10,12,16,18,20,22,24,26] ?_ | refine aP 16 [12,16,18,20,22,24,26] ?_ | refine aP 17 [22,24,26] ?_)))
 | ((first | (with_reducible refine And.intro ?_ ?_) | (with_reducible refine Need.mk ?_)); focus (first | exact True.intro | omega))
 | (with_reducible refine retK_n ?_)
 | ((with_reducible refine And.intro ?_ ?_); focus ((with_reducible show chkR _ _ _ = true); kernel_rfl))
 | ((with_reducible show callN _ _ _ _ _ _ _ _ _ _); first
 | (refine callN_q (k := 35) fnok_35 (exa_p) ?_ ?_)
 | (refine callN_q (k := 36) fnok_36 (wre_p 25 5) ?_ ?_)
 | (refine callN_q (k := 12) fnok_12 (prs_q ex0 ex0_ok rfl) ?_ ?_)
 | (refine callN_q (k := 15) fnok_15 (std_q exC exC_ok 3 (g3 1 2 3) (by decide) _ (fun i o hi ho => by obtain rfl : o = 0 := (by omega); rcases (by omega : i = 0 ∨ i = 1 ∨ i = 2) with rfl | rfl | rfl <;> rfl)) ?_ ?_)
 | (refine callN_q (k := 15) fnok_15 (std_q exC exC_ok 2 (g2 4 5) (by decide) _ (fun i o hi ho => by obtain rfl : o = 0 := (by omega); rcases (by omega : i = 0 ∨ i = 1) with rfl | rfl <;> rfl)) ?_ ?_)
 | (refine callN_q (k := 15) fnok_15 (std_q exC exC_ok 1 (g1 3) (by decide) _ (fun i o hi ho => by obtain rfl : i = 0 := (by omega); obtain rfl : o = 0 := (by omega); rfl)) ?_ ?_)
 | (refine callN_q (k := 17) fnok_17 (res_q exC exC_ok 3 (g3 1 2 3) (by decide) _ (fun i o hi ho => by obtain rfl : o = 0 := (by omega); rcases (by omega : i = 0 ∨ i = 1 ∨ i = 2) with rfl | rfl | rfl <;> rfl)) ?_ ?_)
 | (refine callN_q (k := 17) fnok_17 (res_q exC exC_ok 1 (g1 3) (by decide) _ (fun i o hi ho => by obtain rfl : i = 0 := (by omega); obtain rfl : o = 0 := (by omega); rfl)) ?_ ?_)
 | (refine callN_q (k := 21) fnok_21 (core_p exC exC_ok) ?_ ?_)
 | (refine callN_q (k := 24) fnok_24 (rep_p exC exC_ok) ?_ ?_)
 | (refine callN_q (k := 26) fnok_26 (blm_p exC exC_ok) ?_ ?_)
 | (refine callN_q (k := 14) fnok_14 (sac_q 6 6 (prV ex0) exV (fun p o => civ (L6.getD (p * 4 + o) .any)) (by decide) (by decide) hd_D6) ?_ ?_)
 | (refine callN_q (k := 19) fnok_19 (sal_q 1 1 (askF exC 3 (g3 1 2 3)) (fun _ => wrkF 25 5) _ (by decide) (by decide) hd_fok (fun _ _ => wrkF_ok 25 5) (fun i u hi hu => by obtain rfl : i = 0 := (by omega); rcases (by omega : u = 0 ∨ u = 1 ∨ u = 2 ∨ u = 3 ∨ u = 4 ∨ u = 5 ∨ u = 6 ∨ u = 7 ∨ u = 8) with rfl | rfl | rfl | rfl | rfl | rfl | rfl | rfl | rfl <;> first | rfl | exact IV.eqv_refl _)) ?_ ?_))
 | ((with_reducible show callDN _ _ _ _ _ _ _ _ _ _ _ _ _); first
 | (refine callDN_q (k := 21) fnok_21 (core_q ex1 ex1_ok rfl _ _ (fun i o hi ho => IV.eqv_refl _) (fun i o hi ho => IV.eqv_refl _)) ?_ ?_)
 | (refine callDN_q (k := 26) fnok_26 (blm_q ex1 ex1_ok rfl _ _ (fun i o hi ho => IV.eqv_refl _) (fun i o hi ho => IV.eqv_refl _)) ?_ ?_))
 | ((fail_if_success (with_reducible show AW _ _ _ _)); simp (maxSteps := 2000000) only [go_sem, reduceIte, reduceCtorEq, xA, xL, xD, xE, xM, xS, xB, Tryz.f11, hd_c.1, hd_c.2.1, hd_c.2.2, hd_pq.1, hd_pq.2, hd_s1.1, hd_s1.2, hd_s2.1, hd_s2.2, hd_s3.1, hd_s3.2, hd_s4.1, hd_s4.2, hd_r1.1, hd_r1.2, hd_r2, hd_rq, hd_co.1, hd_bl.1, hd_o.1, hd_b.1, hd_cq, hd_req, hd_blq, hd_oq, hd_bq, Bool.and_self, Int.reduceToNat])
 | ((with_reducible refine hK _ ?_); clear hK K))
end Go.Proofs.YtmnejmpjmniiiaaGreatDoor
