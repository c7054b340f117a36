/- Part 13 of 15: contracts of functions and plain laws for the root text. No condition. -/
import Derived.Test.YtmnejmpjmniiiaaGreatDoorX01
import Derived.Test.YtmnejmpjmniiiaaGreatDoorX02
import Derived.Test.YtmnejmpjmniiiaaGreatDoorX03
import Derived.Test.YtmnejmpjmniiiaaGreatDoorX04
import Derived.Test.YtmnejmpjmniiiaaGreatDoorX05
import Derived.Test.YtmnejmpjmniiiaaGreatDoorX06
import Derived.Test.YtmnejmpjmniiiaaGreatDoorX07
import Derived.Test.YtmnejmpjmniiiaaGreatDoorX08
import Derived.Test.YtmnejmpjmniiiaaGreatDoorX09
import Derived.Test.YtmnejmpjmniiiaaGreatDoorX10
import Derived.Test.YtmnejmpjmniiiaaGreatDoorX11
import Derived.Test.YtmnejmpjmniiiaaGreatDoorX12
set_option linter.unusedVariables false
set_option linter.unusedSimpArgs false
set_option maxRecDepth 100000
set_option maxHeartbeats 4000000
namespace Go.Proofs.YtmnejmpjmniiiaaGreatDoor
open Go.RowKit Go.Sea
open Nat renaming reduceAdd → xA, reduceLT → xL, reduceLeDiff → xD, reduceEqDiff → xE, reduceMul → xM, reduceSub → xS, reduceBEq → xB
theorem fnok_37 : fnOk Tryz.prog 37 = true := by kernel_rfl
theorem fnok_41 : fnOk Tryz.prog 41 = true := by kernel_rfl
theorem fnok_48 : fnOk Tryz.prog 48 = true := by kernel_rfl
theorem fnok_73 : fnOk Tryz.prog 73 = true := by kernel_rfl
theorem fnok_74 : fnOk Tryz.prog 74 = true := by kernel_rfl
theorem fnok_75 : fnOk Tryz.prog 75 = true := by kernel_rfl
attribute [go_sem] fnok_37 fnok_41 fnok_48 fnok_73 fnok_75
def askE (x : CaS) (q : Nat) (a : Nat → Int) : Int := if cvE x = 1 then 1 else if setB x.S x.m q a = false then 1 else cvE x
def askS (x : CaS) (q : Nat) (a : Nat → Int) : Nat := rdN x.S x.m a q
def askB (x : CaS) (q : Nat) (a : Nat → Int) : Bool := if askE x q a = 0 then behB (opY x) (askS x q a) else false
def askN (x : CaS) (q : Nat) (a : Nat → Int) : Nat := if askE x q a = 0 then behN (opY x) (askS x q a) else 0
def askF (x : CaS) (q : Nat) (a : Nat → Int) : Nat → Feat := behF (opY x) (askS x q a)
theorem ask_e {x : CaS} {q : Nat} {a : Nat → Int} (h : askE x q a ≠ 0) : askN x q a = 0 ∧ askB x q a = false := by
  unfold askN askB; rw [if_neg h, if_neg h]; exact ⟨rfl, rfl⟩
theorem ask_1 {x : CaS} {q : Nat} {a : Nat → Int} (h : cvE x = 1) : askE x q a = 1 := if_pos h
theorem ask_s {x : CaS} {q : Nat} {a : Nat → Int} (h : setB x.S x.m q a = false) : askE x q a = 1 := by unfold askE; rw [if_pos h]; split <;> rfl
theorem ask_2 {x : CaS} {q : Nat} {a : Nat → Int} (h : cvE x ≠ 1) (h2 : setB x.S x.m q a = true) : askE x q a = cvE x := by unfold askE; rw [if_neg h, if_neg (by rw [h2]; simp)]
theorem ask_0 {x : CaS} {q : Nat} {a : Nat → Int} (h : cvE x = 0) (h2 : setB x.S x.m q a = true) : askN x q a = behN (opY x) (rdV x.S x.m q a) ∧ askB x q a = behB (opY x) (rdV x.S x.m q a) ∧ askF x q a = behF (opY x) (rdV x.S x.m q a) ∧ askE x q a = 0 := by
  have e : askE x q a = 0 := by rw [ask_2 (by omega) h2, h]
  have e2 : askS x q a = rdV x.S x.m q a := by unfold askS rdV; rw [h2]; rfl
  unfold askN askB askF
  rw [if_pos e, if_pos e, e2]; exact ⟨rfl, rfl, rfl, e⟩
theorem rdV_in {x : CaS} {q : Nat} {a : Nat → Int} (h2 : setB x.S x.m q a = true) : inS x.m (rdV x.S x.m q a) := by
  unfold rdV; rw [if_pos h2]; exact rdN_in (of_decide_eq_true h2)
theorem setF {S : Nat → StepS} {m q : Nat} {a : Nat → Int} {j : Nat} (hj : (j : Int) < q) (h : ¬ setP S m a j) : setB S m q a = false := decide_eq_false fun g => h (g j (by omega))
theorem setT {S : Nat → StepS} {m q : Nat} {a : Nat → Int} {j : Nat} (hj : (q : Int) ≤ j) (h : ∀ i, i < j → setP S m a i) : setB S m q a = true := decide_eq_true fun i hi => h i (by omega)
theorem ix_no {S : Nat → StepS} {m t : Nat} {x : Int} (ht : (m : Int) ≤ t) (g : ∀ j, j < t → (S j).nu ≠ x) : m ≤ ixM S m x := by
  have e : ixM S m x = m := fstB_t m fun j hj => decide_eq_false (g j (by omega))
  omega
def prN (x : CaS) : Nat := if cvE x = 0 then (opL x).length else 0
def prC (x : CaS) (i o : Nat) : IV := clsC x ((opL x).getD i (0, 0)) o
theorem prN_f {x : CaS} (h : cvE x ≠ 0) : prN x = 0 := if_neg h
theorem prN_t {x : CaS} (h : cvE x = 0) : prN x = (opL x).length := if_pos h
def reE (x : CaS) (q : Nat) (a : Nat → Int) : Int := if askE x q a ≠ 0 then askE x q a else if askB x q a = true then 0 else 15
def reN (x : CaS) (q : Nat) (a : Nat → Int) : Nat := if askB x q a = true then askN x q a else 0
theorem re_1 {x : CaS} {q : Nat} {a : Nat → Int} (h : askE x q a ≠ 0) : reE x q a = askE x q a ∧ reN x q a = 0 := by
  unfold reE reN; rw [if_pos h, (ask_e h).2]; exact ⟨rfl, rfl⟩
theorem re_2 {x : CaS} {q : Nat} {a : Nat → Int} (h : askE x q a = 0) (h2 : askB x q a = false) : reE x q a = 15 ∧ reN x q a = 0 := by
  unfold reE reN; rw [if_neg (by omega), h2]; exact ⟨rfl, rfl⟩
theorem re_3 {x : CaS} {q : Nat} {a : Nat → Int} (h : askE x q a = 0) (h2 : askB x q a = true) : reE x q a = 0 ∧ reN x q a = askN x q a := by
  unfold reE reN; rw [if_neg (by omega), h2]; exact ⟨rfl, rfl⟩
theorem nil_eqv (f : Nat → Feat) : PT.eqv (.one (.g (.slice none 0 0))) (.one (.lst 9 0 (featF f))) := ⟨rfl, rfl⟩
theorem opn_fn (x : CaS) (hx : x.Ok) (h0 : x.n = 0) (he : cvE x ≠ 0) : CallsP Tryz.prog 37 [.one (.g (.slice none 0 0)), .one (.lst 2 x.m (stF x.S)), .one (.lst 1 x.mo (ptF x.O))] (.tup [.one (.g (.pointer none)), .one (.g (.int .i64 (cvE x)))]) := (opn_f x hx he).eqv ⟨by rw [h0]; exact nil_eqv _, PT.eqv_refl _, PT.eqv_refl _, trivial⟩ (PV.eqv_refl _)
theorem opn_tn (x : CaS) (hx : x.Ok) (h0 : x.n = 0) (he : cvE x = 0) : CallsP Tryz.prog 37 [.one (.g (.slice none 0 0)), .one (.lst 2 x.m (stF x.S)), .one (.lst 1 x.mo (ptF x.O))] (.tup [.one (.ptr 6 (chC (opY x))), .one (.g (.int .i64 (0)))]) := (opn_t x hx he).eqv ⟨by rw [h0]; exact nil_eqv _, PT.eqv_refl _, PT.eqv_refl _, trivial⟩ (PV.eqv_refl _)
theorem prs_f (x : CaS) (hx : x.Ok) (h0 : x.n = 0) (he : cvE x ≠ 0) : CallsP Tryz.prog 12 [.one (.lst 2 x.m (stF x.S)), .one (.lst 1 x.mo (ptF x.O))] (.tup [.one (.lst 4 (prN x) (prC x)), .one (.g (.int .i64 (cvE x)))]) := by
  refine CallsP_of Tryz.func12 rfl (by rw [Tryz.ntmps12]; simp) ?_
  simp only [Tryz.ntmps12, zM, PT.tv, argEnv, Nat.zero_add, Nat.reduceAdd]
  repeat' (first
 | ((with_reducible show AW _ _ _ _); first
 | (with_reducible first | refine aS (fun K hK => ?_) | refine aI ?_ | refine aX ?_ | refine aT ?_ | refine aC ?_ | refine aB ?_)
 | (first
 | (with_reducible first | refine aP 0 [0,1] ?_ | refine aP 1 [0,1] ?_ | refine aP 2 [6,7] ?_ | refine aP 3 [7] ?_)))
 | ((first | (with_reducible refine And.intro ?_ ?_) | (with_reducible refine Need.mk ?_)); focus (first | exact True.intro | (with_reducible assumption) | omega | (refine ⟨?_, ?_⟩ <;> omega) | (intro _; first | exact True.intro | (with_reducible assumption) | omega) | (intros; (repeat' (first | exact True.intro | omega | (with_reducible assumption) | (with_reducible refine And.intro ?_ ?_))); done) | (simp (disch := omega) only [Bool.and_eq_true, Bool.or_eq_true, decide_eq_true_eq, bne_iff_ne, ne_eq] at *; first | done | omega | (intros; omega)) | (simp; done) | (simp; omega) | (simp +contextual; done) | (intro h; rw [h]; rfl) | (intro hq; have hq2 := hq; simp only [Bool.and_eq_true, Bool.or_eq_true, Bool.not_eq_true', Bool.not_not, Bool.not_eq_false', decide_eq_true_eq, decide_eq_false_iff_not] at hq2; (repeat' (first | exact hq | (with_reducible refine And.intro ?_ ?_) | omega | (simp_all; done))); done) | (intros; simp_all; done)))
 | (with_reducible refine retK_n ?_)
 | (with_reducible refine retK_n' ?_)
 | (with_reducible refine retH_n rfl rfl rfl ?_)
 | (with_reducible refine retH_n' rfl rfl rfl ?_)
 | ((with_reducible show condN _ _ _ _ _ _); first
 | ((with_reducible refine condN_t ?_ ?_) <;> (intro hc; (try simp only [zB, zC, reduceCtorEq] at hc); (try (exfalso; first | contradiction | omega)))))
 | ((with_reducible show callN _ _ _ _ _ _ _ _ _ _); first
 | (refine callN_q (k := 37) fnok_37 (opn_fn x hx h0 he) ?_ ?_))
 | ((fail_if_success (with_reducible show AW _ _ _ _)); simp (maxSteps := 2000000) only [go_sem, reduceIte, reduceCtorEq, xA, xL, xD, xE, xM, xS, xB, Tryz.f12])
 | ((with_reducible refine hK _ ?_); clear hK K))
  all_goals (first | exact prN_f he | (exfalso; omega) | (exfalso; simp at hc; omega) | skip)
theorem prs_t (x : CaS) (hx : x.Ok) (h0 : x.n = 0) (he : cvE x = 0) : CallsP Tryz.prog 12 [.one (.lst 2 x.m (stF x.S)), .one (.lst 1 x.mo (ptF x.O))] (.tup [.one (.lst 4 (prN x) (prC x)), .one (.g (.int .i64 (cvE x)))]) := by
  refine CallsP_of Tryz.func12 rfl (by rw [Tryz.ntmps12]; simp) ?_
  simp only [Tryz.ntmps12, zM, PT.tv, argEnv, Nat.zero_add, Nat.reduceAdd]
  repeat' (first
 | ((with_reducible show AW _ _ _ _); first
 | (with_reducible first | refine aS (fun K hK => ?_) | refine aI ?_ | refine aX ?_ | refine aT ?_ | refine aC ?_ | refine aB ?_)
 | (first
 | (with_reducible first | refine aP 0 [0,1] ?_ | refine aP 1 [0,1] ?_ | refine aP 2 [6,7] ?_ | refine aP 3 [7] ?_ | refine aP 4 [6] ?_)))
 | ((first | (with_reducible refine And.intro ?_ ?_) | (with_reducible refine Need.mk ?_)); focus (first | exact True.intro | (with_reducible assumption) | omega | (refine ⟨?_, ?_⟩ <;> omega) | (intro _; first | exact True.intro | (with_reducible assumption) | omega) | (intros; (repeat' (first | exact True.intro | omega | (with_reducible assumption) | (with_reducible refine And.intro ?_ ?_))); done) | (simp (disch := omega) only [Bool.and_eq_true, Bool.or_eq_true, decide_eq_true_eq, bne_iff_ne, ne_eq] at *; first | done | omega | (intros; omega)) | (simp; done) | (simp; omega) | (simp +contextual; done) | (intro h; rw [h]; rfl) | (intro hq; have hq2 := hq; simp only [Bool.and_eq_true, Bool.or_eq_true, Bool.not_eq_true', Bool.not_not, Bool.not_eq_false', decide_eq_true_eq, decide_eq_false_iff_not] at hq2; (repeat' (first | exact hq | (with_reducible refine And.intro ?_ ?_) | omega | (simp_all; done))); done) | (intros; simp_all; done)))
 | (with_reducible refine retK_n ?_)
 | (with_reducible refine retK_n' ?_)
 | (with_reducible refine retH_n rfl rfl rfl ?_)
 | (with_reducible refine retH_n' rfl rfl rfl ?_)
 | ((with_reducible show condN _ _ _ _ _ _); first
 | ((with_reducible refine condN_t ?_ ?_) <;> (intro hc; (try simp only [zB, zC, reduceCtorEq] at hc); (try (exfalso; first | contradiction | omega)))))
 | ((with_reducible show callN _ _ _ _ _ _ _ _ _ _); first
 | (refine callN_q (k := 37) fnok_37 (opn_tn x hx h0 he) ?_ ?_))
 | ((fail_if_success (with_reducible show AW _ _ _ _)); simp (maxSteps := 2000000) only [go_sem, reduceIte, reduceCtorEq, xA, xL, xD, xE, xM, xS, xB, Tryz.f12, he, chC5, chC])
 | ((with_reducible refine hK _ ?_); clear hK K))
  all_goals (first | (rw [prN_t he]; exact ⟨rfl, fun i o _ _ => IV.eqv_refl _⟩) | skip)
theorem prs_p (x : CaS) (hx : x.Ok) (h0 : x.n = 0) : CallsP Tryz.prog 12 [.one (.lst 2 x.m (stF x.S)), .one (.lst 1 x.mo (ptF x.O))] (.tup [.one (.lst 4 (prN x) (prC x)), .one (.g (.int .i64 (cvE x)))]) := by
  by_cases he : cvE x = 0
  · exact prs_t x hx h0 he
  · exact prs_f x hx h0 he
theorem ask_a (x : CaS) (hx : x.Ok) (q : Nat) (a : Nat → Int) (hqq : q ≤ 9223372036854775807) (he : cvE x = 1) : CallsP Tryz.prog 41 [.one (.lst 9 x.n (featF x.f)), .one (.lst 2 x.m (stF x.S)), .one (.lst 1 x.mo (ptF x.O)), .one (.lst 1 q (intI a))] (.tup [.one (.lst 9 (askN x q a) (featF (askF x q a))), .one (.g (.bool (askB x q a))), .one (.g (.int .i64 (askE x q a)))]) := by
  refine CallsP_of Tryz.func41 rfl (by rw [Tryz.ntmps41]; simp) ?_
  simp only [Tryz.ntmps41, zM, PT.tv, argEnv, Nat.zero_add, Nat.reduceAdd]
  repeat' (first
 | ((with_reducible show AW _ _ _ _); first
 | (with_reducible first | refine aS (fun K hK => ?_) | refine aI ?_ | refine aX ?_ | refine aT ?_ | refine aC ?_ | refine aB ?_)
 | (first
 | (with_reducible first | refine aP 0 [0,1,2,3] ?_ | refine aP 1 [0,1,2,3] ?_ | refine aP 2 [0,1,2,3,11] ?_ | refine aP 3 [11] ?_ | refine aP 6 [0,1,2,3,12,26,27,28] ?_ | refine aP 7 [0,1,2,3,12,26,27,28] ?_ | refine aP 8 [0,1,2,3,12,14,26,27,28] ?_ | refine aP 9 [] ?_ | refine aP 10 [0,1,2,3,14,26,27,28] ?_ | refine aP 11 [0,1,2,3,12,26,27,28] ?_ | refine aP 13 [3,11,15] ?_ | refine aP 14 [11] ?_ | refine aP 15 [3,15] ?_ | refine aP 16 [15,16,17] ?_ | refine aP 17 [] ?_ | refine aP 18 [15,16] ?_ | refine aP 19 [17,18] ?_)))
 | ((first | (with_reducible refine And.intro ?_ ?_) | (with_reducible refine Need.mk ?_)); focus (first | exact True.intro | (with_reducible assumption) | omega | (refine ⟨?_, ?_⟩ <;> omega) | (intro _; first | exact True.intro | (with_reducible assumption) | omega) | (intros; (repeat' (first | exact True.intro | omega | (with_reducible assumption) | (with_reducible refine And.intro ?_ ?_))); done) | (simp (disch := omega) only [Bool.and_eq_true, Bool.or_eq_true, decide_eq_true_eq, bne_iff_ne, ne_eq] at *; first | done | omega | (intros; omega)) | (simp; done) | (simp; omega) | (simp +contextual; done) | (intro h; rw [h]; rfl) | (intro hq; have hq2 := hq; simp only [Bool.and_eq_true, Bool.or_eq_true, Bool.not_eq_true', Bool.not_not, Bool.not_eq_false', decide_eq_true_eq, decide_eq_false_iff_not] at hq2; (repeat' (first | exact hq | (with_reducible refine And.intro ?_ ?_) | omega | (simp_all; done))); done) | (intros; simp_all; done)))
 | (with_reducible refine retK_n ?_)
 | (with_reducible refine retK_n' ?_)
 | (with_reducible refine retH_n rfl rfl rfl ?_)
 | (with_reducible refine retH_n' rfl rfl rfl ?_)
 | ((with_reducible show condN _ _ _ _ _ _); first
 | ((with_reducible refine condN_t ?_ ?_) <;> (intro hc; (try simp only [zB, zC, reduceCtorEq] at hc); (try (exfalso; first | contradiction | omega)))))
 | ((with_reducible show callN _ _ _ _ _ _ _ _ _ _); first
 | (refine callN_q (k := 65) fnok_65 (cval_p x hx) ?_ ?_))
 | ((fail_if_success (with_reducible show AW _ _ _ _)); simp (maxSteps := 2000000) only [go_sem, reduceIte, reduceCtorEq, xA, xL, xD, xE, xM, xS, xB, Tryz.f41, he])
 | ((fail_if_success (with_reducible show AW _ _ _ _)); simp (disch := omega) only [seaWrap, seaDiv, seaMod])
 | ((with_reducible refine hK _ ?_); clear hK K))
  all_goals (first | (have e := ask_1 (q := q) (a := a) he; have e2 := ask_e (x := x) (q := q) (a := a) (by omega); rw [e, e2.1, e2.2]; exact ⟨rfl, rfl, rfl⟩) | (exfalso; simp at hc; done) | skip)
theorem ask_b (x : CaS) (hx : x.Ok) (q : Nat) (a : Nat → Int) (hqq : q ≤ 9223372036854775807) (he : cvE x ≠ 1) (he0 : cvE x ≠ 0) : CallsP Tryz.prog 41 [.one (.lst 9 x.n (featF x.f)), .one (.lst 2 x.m (stF x.S)), .one (.lst 1 x.mo (ptF x.O)), .one (.lst 1 q (intI a))] (.tup [.one (.lst 9 (askN x q a) (featF (askF x q a))), .one (.g (.bool (askB x q a))), .one (.g (.int .i64 (askE x q a)))]) := by
  have hxm := hx.m
  have mk0 : True := trivial
  have hle : True := trivial
  have hst : True := trivial
  have hsq : True := trivial
  refine CallsP_of Tryz.func41 rfl (by rw [Tryz.ntmps41]; simp) ?_
  simp only [Tryz.ntmps41, zM, PT.tv, argEnv, Nat.zero_add, Nat.reduceAdd]
  repeat' (first
 | ((with_reducible show callGN _ _ false _ _ _ _ _ _ _); (with_reducible refine callGN_sq (fun h => by cases h) (fun _ => ?_)))
 | ((with_reducible show callGK _ _ false _ _ _ _); (with_reducible refine callGK_s (fun h => by cases h) (fun _ => ?_)))
 | ((with_reducible show callGK _ _ true (Oper.mk _ (Op.call _) _ _ _ _) _ _ _); (with_reducible refine callGK_s (fun _ => ?_) (fun h => by cases h)))
 | ((with_reducible show callGN _ _ true _ _ _ _ _ _ _); (with_reducible refine callGN_sq (fun _ => ?_) (fun h => by cases h)))
 | ((with_reducible show callGN _ _ _ _ _ _ _ _ _ _); first
 | ((refine callGN_sq ?_ ?_) <;> (intro hc; (try rw [hc]); (try simp only [zB, zC, reduceCtorEq] at hc); (try (exfalso; first | contradiction | omega)))))
 | ((with_reducible show AW _ _ _ _); first
 | (with_reducible first | refine aS (fun K hK => ?_) | refine aI ?_ | refine aX ?_ | refine aT ?_ | refine aC ?_ | refine aB ?_)
 | (first
 | (with_reducible first | refine aP 0 [0,1,2,3] ?_ | refine aP (ops := #[⟨some 19, _, _, _, _, _⟩, _, _, _, _]) 1 [0,1,2,3] ?_ | refine aP (ops := #[⟨some 5, _, _, _, _, _⟩, _, _, _, _]) 1 [0,1] ?_ | refine aP (ops := #[⟨some 6, _, _, _, _, _⟩, _, _]) 1 [0,1] ?_ | refine aP (ops := #[⟨some 4, _, _, _, _, _⟩, _, _, _, _]) 1 [1,2] ?_ | refine aP (ops := #[⟨some 23, _, _, _, _, _⟩, _]) 2 [0,1,2,3,11] ?_ | refine aP (ops := #[⟨some 9, _, _, _, _, _⟩]) 2 [0,1,7,8] ?_ | refine aP (ops := #[⟨some 25, _, _, _, _, _⟩, _, _, _]) 3 [11] ?_ | refine aP (ops := #[⟨some 10, _, _, _, _, _⟩, _]) 3 [0,1,7,8] ?_ | refine aP (ops := #[⟨some 12, _, _, _, _, _⟩]) 4 [0,1,2,3] ?_ | refine aP (ops := #[⟨some 11, _, _, _, _, _⟩, _, _, _, _, _]) 4 [0,1,5,7,8] ?_ | refine aP (ops := #[⟨some 26, _, _, _, _, _⟩, _, _]) 5 [0,1,2,3,12] ?_ | refine aP (ops := #[⟨some 17, _, _, _, _, _⟩, _]) 5 [5] ?_ | refine aP (ops := #[⟨some 29, _, _, _, _, _⟩]) 6 [0,1,2,3,12,26,27,28] ?_ | refine aP (ops := #[⟨some 18, _, _, _, _, _⟩, _]) 6 [0,1,7,8] ?_ | refine aP (ops := #[⟨some 30, _, _, _, _, _⟩, _, _, _]) 7 [0,1,2,3,12,26,27,28] ?_ | refine aP (ops := #[⟨some 4, _, _, _, _, _⟩]) 7 [] ?_ | refine aP 8 [0,1,2,3,12,14,26,27,28] ?_ | refine aP 9 [] ?_ | refine aP 10 [0,1,2,3,14,26,27,28] ?_ | refine aP 11 [0,1,2,3,12,26,27,28] ?_ | refine aP 12 [0,1,2,3] ?_ | refine aP 13 [3,11,15] ?_ | refine aP 14 [11] ?_ | refine aP 15 [3,15] ?_ | refine aP 16 [15,16,17] ?_ | refine aP 17 [] ?_ | refine aP 18 [15,16] ?_ | refine aP 19 [17,18] ?_))
 | ((with_reducible show AW _ (Code.loop _) _ _); first
 | ((with_reducible refine aL (c := (Code.seq (Code.region 6 _ _) _)) (ι := Nat) [0,1,2,3,26,27] (fun j => [(12, iA .i64 (lsA a j)), (28, iA .i64 (j : Int))]) (fun j => []) (fun j => j ≤ q ∧ (∀ j', j' < j → setP x.S x.m a j')) (fun j => q - j) 0 ?lg6 ?l16 ?l26 ?li6 ?lr6); (case' lg6 => rintro j _); (case' li6 => try (exact ⟨Nat.zero_le _, fun i hi => absurd hi (Nat.not_lt_zero _)⟩)); (case' lr6 => rintro j ⟨hj, haj⟩ KR hR6; simp only [keepE, hupd, hset, lk, if_true, if_false, xE, reduceIte, zN, stF0, stF1, lsA_s, lsA_0, hle]))
 | ((with_reducible refine aL (c := (Code.seq (Code.region 2 _ _) _)) (ι := Nat) [0,1,7] (fun t => [(8, iA .i64 (t : Int))]) (fun t => []) (fun t => t ≤ x.m ∧ (∀ t', t' < t → (x.S t').nu ≠ a j)) (fun t => x.m - t) 0 ?lg2 ?l12 ?l22 ?li2 ?lr2); (case' lg2 => rintro t _); (case' li2 => try (exact ⟨Nat.zero_le _, fun i hi => absurd hi (Nat.not_lt_zero _)⟩)); (case' lr2 => rintro t ⟨ht, hat⟩ KR hR2; simp only [keepE, hupd, hset, lk, if_true, if_false, xE, reduceIte, zN, stF0, stF1, lsA_s, lsA_0, hle]))))
 | ((first | (with_reducible refine And.intro ?_ ?_) | (with_reducible refine Need.mk ?_)); focus (first | exact True.intro | (with_reducible assumption) | omega | (refine ⟨?_, ?_⟩ <;> omega) | (intro _; first | exact True.intro | (with_reducible assumption) | omega) | (intros; (repeat' (first | exact True.intro | omega | (with_reducible assumption) | (with_reducible refine And.intro ?_ ?_))); done) | (simp (disch := omega) only [Bool.and_eq_true, Bool.or_eq_true, decide_eq_true_eq, bne_iff_ne, ne_eq] at *; first | done | omega | (intros; omega)) | (simp; done) | (simp; omega) | (simp +contextual; done) | (intro h; rw [h]; rfl) | (intro hq; have hq2 := hq; simp only [Bool.and_eq_true, Bool.or_eq_true, Bool.not_eq_true', Bool.not_not, Bool.not_eq_false', decide_eq_true_eq, decide_eq_false_iff_not] at hq2; (repeat' (first | exact hq | (with_reducible refine And.intro ?_ ?_) | omega | (simp_all; done))); done) | (intros; simp_all; done)))
 | (with_reducible refine retK_n ?_)
 | (with_reducible refine retK_n' ?_)
 | (with_reducible refine retH_n rfl rfl rfl ?_)
 | (with_reducible refine retH_n' rfl rfl rfl ?_)
 | ((with_reducible show condN _ _ _ _ _ _); first
 | ((with_reducible refine condN_t ?_ ?_) <;> (intro hc; (try simp only [zB, zC, reduceCtorEq] at hc); ((try (exfalso; omega)); (try (clear mk0 hle; have hjq : j < q := (by omega); rcases hle0 : decide (a j ≤ lsA a j) with _ | _; all_goals (have hle := hle0))); (try (have hsb := setT (S := x.S) (m := x.m) (q := q) (a := a) (by omega) haj; clear hst; have hst := hsb; have hsq : setB (opY x).x.S (opY x).x.m q a = true := hsb))); (try (exfalso; first | contradiction | omega)))))
 | ((with_reducible show callN _ _ _ _ _ _ _ _ _ _); first
 | (refine callN_q (k := 65) fnok_65 (cval_p x hx) ?_ ?_)
 | (refine callN_q (k := 37) fnok_37 (opn_f x hx he0) ?_ ?_)
 | ((refine callN_i (k := 73) Tryz.func73 rfl fnok_73 (by rw [Tryz.ntmps73]; simp) ?_ ?_ (fun K hK => ?_)); (focus (first | exact True.intro | (with_reducible assumption) | omega | (refine ⟨?_, ?_⟩ <;> omega) | (intro _; first | exact True.intro | (with_reducible assumption) | omega) | (intros; (repeat' (first | exact True.intro | omega | (with_reducible assumption) | (with_reducible refine And.intro ?_ ?_))); done) | (simp (disch := omega) only [Bool.and_eq_true, Bool.or_eq_true, decide_eq_true_eq, bne_iff_ne, ne_eq] at *; first | done | omega | (intros; omega)) | (simp; done) | (simp; omega) | (simp +contextual; done) | (intro h; rw [h]; rfl) | (intro hq; have hq2 := hq; simp only [Bool.and_eq_true, Bool.or_eq_true, Bool.not_eq_true', Bool.not_not, Bool.not_eq_false', decide_eq_true_eq, decide_eq_false_iff_not] at hq2; (repeat' (first | exact hq | (with_reducible refine And.intro ?_ ?_) | omega | (simp_all; done))); done) | (intros; simp_all; done))); (focus (first | (simp [lsF]; done) | assumption | exact ⟨Nat.ne_of_lt (Nat.lt_succ_self _), by assumption⟩)); simp only [Tryz.ntmps73, List.map_cons, List.map_nil, List.nil_append, List.cons_append, List.append_nil, LV.tv, argEnv, Nat.zero_add, Nat.reduceAdd])
 | ((refine callN_i (k := 99) Tryz.func99 rfl fnok_99 (by rw [Tryz.ntmps99]; simp) ?_ ?_ (fun K hK => ?_)); (focus (first | exact True.intro | (with_reducible assumption) | omega | (refine ⟨?_, ?_⟩ <;> omega) | (intro _; first | exact True.intro | (with_reducible assumption) | omega) | (intros; (repeat' (first | exact True.intro | omega | (with_reducible assumption) | (with_reducible refine And.intro ?_ ?_))); done) | (simp (disch := omega) only [Bool.and_eq_true, Bool.or_eq_true, decide_eq_true_eq, bne_iff_ne, ne_eq] at *; first | done | omega | (intros; omega)) | (simp; done) | (simp; omega) | (simp +contextual; done) | (intro h; rw [h]; rfl) | (intro hq; have hq2 := hq; simp only [Bool.and_eq_true, Bool.or_eq_true, Bool.not_eq_true', Bool.not_not, Bool.not_eq_false', decide_eq_true_eq, decide_eq_false_iff_not] at hq2; (repeat' (first | exact hq | (with_reducible refine And.intro ?_ ?_) | omega | (simp_all; done))); done) | (intros; simp_all; done))); (focus (first | (simp [lsF]; done) | assumption | exact ⟨Nat.ne_of_lt (Nat.lt_succ_self _), by assumption⟩)); simp only [Tryz.ntmps99, List.map_cons, List.map_nil, List.nil_append, List.cons_append, List.append_nil, LV.tv, argEnv, Nat.zero_add, Nat.reduceAdd])
 | ((refine callN_ic (k := 74) Tryz.func74 rfl fnok_74 (by rw [Tryz.ntmps74]; simp) ?_ ?_ (fun K hK => ?_)); (focus (first | exact True.intro | (with_reducible assumption) | omega | (refine ⟨?_, ?_⟩ <;> omega) | (intro _; first | exact True.intro | (with_reducible assumption) | omega) | (intros; (repeat' (first | exact True.intro | omega | (with_reducible assumption) | (with_reducible refine And.intro ?_ ?_))); done) | (simp (disch := omega) only [Bool.and_eq_true, Bool.or_eq_true, decide_eq_true_eq, bne_iff_ne, ne_eq] at *; first | done | omega | (intros; omega)) | (simp; done) | (simp; omega) | (simp +contextual; done) | (intro h; rw [h]; rfl) | (intro hq; have hq2 := hq; simp only [Bool.and_eq_true, Bool.or_eq_true, Bool.not_eq_true', Bool.not_not, Bool.not_eq_false', decide_eq_true_eq, decide_eq_false_iff_not] at hq2; (repeat' (first | exact hq | (with_reducible refine And.intro ?_ ?_) | omega | (simp_all; done))); done) | (intros; simp_all; done))); (focus (first | (simp [lsF]; done) | assumption | exact ⟨Nat.ne_of_lt (Nat.lt_succ_self _), by assumption⟩)); simp only [Tryz.ntmps74, List.map_cons, List.map_nil, List.nil_append, List.cons_append, List.append_nil, LV.tv, argEnv, Nat.zero_add, Nat.reduceAdd]))
 | ((with_reducible refine hR6 _ (j + 1) ?_); (try clear hR6 KR))
 | ((with_reducible refine hR2 _ (t + 1) ?_); (try clear hR2 KR))
 | ((with_reducible refine Told.mk ?_); simp only [go_sem, reduceIte, reduceCtorEq, xA, xL, xD, xE, xM, xS, xB, stF0, stF1, intI, lsA_s, lsA_0, hle] <;> (first | exact True.intro | (((try simp (disch := omega) only [seaWrap, Int.natCast_add, Int.cast_ofNat_Int, and_true, true_and, and_self]); (repeat' (first | exact True.intro | omega | rfl | (with_reducible assumption) | (with_reducible refine And.intro ?_ ?_) | (exact all_succ (by assumption) (by assumption)) | ((exact all_succ (by assumption) ⟨by have := ix_of (S := x.S) (m := x.m) (by omega) (by assumption) hat; omega, by have := of_decide_eq_false hle; omega⟩)))); done)) | (((try simp (disch := omega) only [seaWrap, Int.natCast_add, Int.cast_ofNat_Int, and_true, true_and, and_self]); (repeat' (first | exact True.intro | omega | rfl | (with_reducible assumption) | (with_reducible refine And.intro ?_ ?_) | (exact all_succ (by assumption) (by assumption)) )); done)) | (refine Stuck.out ?_)))
 | ((fail_if_success (with_reducible show AW _ _ _ _)); simp (maxSteps := 2000000) only [go_sem, reduceIte, reduceCtorEq, xA, xL, xD, xE, xM, xS, xB, Tryz.f41, Tryz.f73, Tryz.f99, Tryz.f74, stF0, stF1, intI, lsA_s, lsA_0, hle])
 | ((fail_if_success (with_reducible show AW _ _ _ _)); simp (disch := omega) only [seaWrap, seaDiv, seaMod])
 | ((with_reducible refine hK _ ?_); clear hK K)
 | (with_reducible apply_assumption -exfalso only [*]))
  all_goals first
    | (have e0 := setF (S := x.S) (m := x.m) (q := q) (a := a) (j := j) (by omega) (set_f2 (of_decide_eq_true hle)); have e := ask_s (x := x) e0; have e2 := ask_e (x := x) (q := q) (a := a) (by omega); rw [e, e2.1, e2.2]; exact ⟨rfl, rfl, rfl⟩)
    | (have e0 := setF (S := x.S) (m := x.m) (q := q) (a := a) (j := j) (by omega) (set_f1 (ix_no (by omega) hat)); have e := ask_s (x := x) e0; have e2 := ask_e (x := x) (q := q) (a := a) (by omega); rw [e, e2.1, e2.2]; exact ⟨rfl, rfl, rfl⟩)
    | (have e := ask_2 (x := x) he hsb; have e2 := ask_e (x := x) (q := q) (a := a) (by omega); rw [e, e2.1, e2.2]; exact ⟨rfl, rfl, rfl⟩)
    | (have e := ask_0 (x := x) he hsb; rw [e.1, e.2.1, e.2.2.1, e.2.2.2]; exact ⟨⟨rfl, fun i o _ _ => IV.eqv_refl _⟩, rfl, rfl⟩)
    | (exfalso; simp at hc; omega)
    | skip
theorem ask_c (x : CaS) (hx : x.Ok) (q : Nat) (a : Nat → Int) (hqq : q ≤ 9223372036854775807) (he : cvE x = 0) : CallsP Tryz.prog 41 [.one (.lst 9 x.n (featF x.f)), .one (.lst 2 x.m (stF x.S)), .one (.lst 1 x.mo (ptF x.O)), .one (.lst 1 q (intI a))] (.tup [.one (.lst 9 (askN x q a) (featF (askF x q a))), .one (.g (.bool (askB x q a))), .one (.g (.int .i64 (askE x q a)))]) := by
  have hxm := hx.m
  have mk0 : True := trivial
  have hle : True := trivial
  have hst : True := trivial
  have hsq : True := trivial
  refine CallsP_of Tryz.func41 rfl (by rw [Tryz.ntmps41]; simp) ?_
  simp only [Tryz.ntmps41, zM, PT.tv, argEnv, Nat.zero_add, Nat.reduceAdd]
  repeat' (first
 | ((with_reducible show callGN _ _ false _ _ _ _ _ _ _); (with_reducible refine callGN_sq (fun h => by cases h) (fun _ => ?_)))
 | ((with_reducible show callGK _ _ false _ _ _ _); (with_reducible refine callGK_s (fun h => by cases h) (fun _ => ?_)))
 | ((with_reducible show callGK _ _ true (Oper.mk _ (Op.call _) _ _ _ _) _ _ _); (with_reducible refine callGK_s (fun _ => ?_) (fun h => by cases h)))
 | ((with_reducible show callGN _ _ true _ _ _ _ _ _ _); (with_reducible refine callGN_sq (fun _ => ?_) (fun h => by cases h)))
 | ((with_reducible show callGN _ _ _ _ _ _ _ _ _ _); first
 | ((refine callGN_sq ?_ ?_) <;> (intro hc; (try rw [hc]); (try simp only [zB, zC, reduceCtorEq] at hc); (try (exfalso; first | contradiction | omega)))))
 | ((with_reducible show AW _ _ _ _); first
 | (with_reducible first | refine aS (fun K hK => ?_) | refine aI ?_ | refine aX ?_ | refine aT ?_ | refine aC ?_ | refine aB ?_)
 | (first
 | (with_reducible first | refine aP 0 [0,1,2,3] ?_ | refine aP (ops := #[⟨some 19, _, _, _, _, _⟩, _, _, _, _]) 1 [0,1,2,3] ?_ | refine aP (ops := #[⟨some 5, _, _, _, _, _⟩, _, _, _, _]) 1 [0,1] ?_ | refine aP (ops := #[⟨some 6, _, _, _, _, _⟩, _, _]) 1 [0,1] ?_ | refine aP (ops := #[⟨some 4, _, _, _, _, _⟩, _, _, _, _]) 1 [1,2] ?_ | refine aP (ops := #[⟨some 23, _, _, _, _, _⟩, _]) 2 [0,1,2,3,11] ?_ | refine aP (ops := #[⟨some 9, _, _, _, _, _⟩]) 2 [0,1,7,8] ?_ | refine aP (ops := #[⟨some 25, _, _, _, _, _⟩, _, _, _]) 3 [11] ?_ | refine aP (ops := #[⟨some 10, _, _, _, _, _⟩, _]) 3 [0,1,7,8] ?_ | refine aP (ops := #[⟨some 12, _, _, _, _, _⟩]) 4 [0,1,2,3] ?_ | refine aP (ops := #[⟨some 11, _, _, _, _, _⟩, _, _, _, _, _]) 4 [0,1,5,7,8] ?_ | refine aP (ops := #[⟨some 26, _, _, _, _, _⟩, _, _]) 5 [0,1,2,3,12] ?_ | refine aP (ops := #[⟨some 17, _, _, _, _, _⟩, _]) 5 [5] ?_ | refine aP (ops := #[⟨some 29, _, _, _, _, _⟩]) 6 [0,1,2,3,12,26,27,28] ?_ | refine aP (ops := #[⟨some 18, _, _, _, _, _⟩, _]) 6 [0,1,7,8] ?_ | refine aP (ops := #[⟨some 30, _, _, _, _, _⟩, _, _, _]) 7 [0,1,2,3,12,26,27,28] ?_ | refine aP (ops := #[⟨some 4, _, _, _, _, _⟩]) 7 [] ?_ | refine aP 8 [0,1,2,3,12,14,26,27,28] ?_ | refine aP 9 [] ?_ | refine aP 10 [0,1,2,3,14,26,27,28] ?_ | refine aP 11 [0,1,2,3,12,26,27,28] ?_ | refine aP 12 [0,1,2,3] ?_ | refine aP 13 [3,11,15] ?_ | refine aP 14 [11] ?_ | refine aP 15 [3,15] ?_ | refine aP 16 [15,16,17] ?_ | refine aP 17 [] ?_ | refine aP 18 [15,16] ?_ | refine aP 19 [17,18] ?_))
 | ((with_reducible show AW _ (Code.loop _) _ _); first
 | ((with_reducible refine aL (c := (Code.seq (Code.region 6 _ _) _)) (ι := Nat) [0,1,2,3,26,27] (fun j => [(12, iA .i64 (lsA a j)), (28, iA .i64 (j : Int))]) (fun j => []) (fun j => j ≤ q ∧ (∀ j', j' < j → setP x.S x.m a j')) (fun j => q - j) 0 ?lg6 ?l16 ?l26 ?li6 ?lr6); (case' lg6 => rintro j _); (case' li6 => try (exact ⟨Nat.zero_le _, fun i hi => absurd hi (Nat.not_lt_zero _)⟩)); (case' lr6 => rintro j ⟨hj, haj⟩ KR hR6; simp only [keepE, hupd, hset, lk, if_true, if_false, xE, reduceIte, zN, stF0, stF1, lsA_s, lsA_0, hle, he, hsq]))
 | ((with_reducible refine aL (c := (Code.seq (Code.region 2 _ _) _)) (ι := Nat) [0,1,7] (fun t => [(8, iA .i64 (t : Int))]) (fun t => []) (fun t => t ≤ x.m ∧ (∀ t', t' < t → (x.S t').nu ≠ a j)) (fun t => x.m - t) 0 ?lg2 ?l12 ?l22 ?li2 ?lr2); (case' lg2 => rintro t _); (case' li2 => try (exact ⟨Nat.zero_le _, fun i hi => absurd hi (Nat.not_lt_zero _)⟩)); (case' lr2 => rintro t ⟨ht, hat⟩ KR hR2; simp only [keepE, hupd, hset, lk, if_true, if_false, xE, reduceIte, zN, stF0, stF1, lsA_s, lsA_0, hle, he, hsq]))))
 | ((first | (with_reducible refine And.intro ?_ ?_) | (with_reducible refine Need.mk ?_)); focus (first | exact True.intro | (with_reducible assumption) | omega | (refine ⟨?_, ?_⟩ <;> omega) | (intro _; first | exact True.intro | (with_reducible assumption) | omega) | (intros; (repeat' (first | exact True.intro | omega | (with_reducible assumption) | (with_reducible refine And.intro ?_ ?_))); done) | (simp (disch := omega) only [Bool.and_eq_true, Bool.or_eq_true, decide_eq_true_eq, bne_iff_ne, ne_eq] at *; first | done | omega | (intros; omega)) | (simp; done) | (simp; omega) | (simp +contextual; done) | (intro h; rw [h]; rfl) | (intro hq; have hq2 := hq; simp only [Bool.and_eq_true, Bool.or_eq_true, Bool.not_eq_true', Bool.not_not, Bool.not_eq_false', decide_eq_true_eq, decide_eq_false_iff_not] at hq2; (repeat' (first | exact hq | (with_reducible refine And.intro ?_ ?_) | omega | (simp_all; done))); done) | (intros; simp_all; done)))
 | (with_reducible refine retK_n ?_)
 | (with_reducible refine retK_n' ?_)
 | (with_reducible refine retH_n rfl rfl rfl ?_)
 | (with_reducible refine retH_n' rfl rfl rfl ?_)
 | ((with_reducible show condN _ _ _ _ _ _); first
 | ((with_reducible refine condN_t ?_ ?_) <;> (intro hc; (try simp only [zB, zC, reduceCtorEq] at hc); ((try (exfalso; omega)); (try (clear mk0 hle; have hjq : j < q := (by omega); rcases hle0 : decide (a j ≤ lsA a j) with _ | _; all_goals (have hle := hle0))); (try (have hsb := setT (S := x.S) (m := x.m) (q := q) (a := a) (by omega) haj; clear hst; have hst := hsb; have hsq : setB (opY x).x.S (opY x).x.m q a = true := hsb))); (try (exfalso; first | contradiction | omega)))))
 | ((with_reducible show callN _ _ _ _ _ _ _ _ _ _); first
 | (refine callN_q (k := 65) fnok_65 (cval_p x hx) ?_ ?_)
 | (refine callN_q (k := 37) fnok_37 (opn_t x hx he) ?_ ?_)
 | (refine callN_q (k := 75) fnok_75 (read_p (opY x) (opY_ok hx he) q a hqq) ?_ ?_)
 | (refine callN_q (k := 48) fnok_48 (beh_p (opY x) (opY_ok hx he) (rdV x.S x.m q a) (rdV_in hsb)) ?_ ?_)
 | ((refine callN_i (k := 73) Tryz.func73 rfl fnok_73 (by rw [Tryz.ntmps73]; simp) ?_ ?_ (fun K hK => ?_)); (focus (first | exact True.intro | (with_reducible assumption) | omega | (refine ⟨?_, ?_⟩ <;> omega) | (intro _; first | exact True.intro | (with_reducible assumption) | omega) | (intros; (repeat' (first | exact True.intro | omega | (with_reducible assumption) | (with_reducible refine And.intro ?_ ?_))); done) | (simp (disch := omega) only [Bool.and_eq_true, Bool.or_eq_true, decide_eq_true_eq, bne_iff_ne, ne_eq] at *; first | done | omega | (intros; omega)) | (simp; done) | (simp; omega) | (simp +contextual; done) | (intro h; rw [h]; rfl) | (intro hq; have hq2 := hq; simp only [Bool.and_eq_true, Bool.or_eq_true, Bool.not_eq_true', Bool.not_not, Bool.not_eq_false', decide_eq_true_eq, decide_eq_false_iff_not] at hq2; (repeat' (first | exact hq | (with_reducible refine And.intro ?_ ?_) | omega | (simp_all; done))); done) | (intros; simp_all; done))); (focus (first | (simp [lsF]; done) | assumption | exact ⟨Nat.ne_of_lt (Nat.lt_succ_self _), by assumption⟩)); simp only [Tryz.ntmps73, List.map_cons, List.map_nil, List.nil_append, List.cons_append, List.append_nil, LV.tv, argEnv, Nat.zero_add, Nat.reduceAdd])
 | ((refine callN_i (k := 99) Tryz.func99 rfl fnok_99 (by rw [Tryz.ntmps99]; simp) ?_ ?_ (fun K hK => ?_)); (focus (first | exact True.intro | (with_reducible assumption) | omega | (refine ⟨?_, ?_⟩ <;> omega) | (intro _; first | exact True.intro | (with_reducible assumption) | omega) | (intros; (repeat' (first | exact True.intro | omega | (with_reducible assumption) | (with_reducible refine And.intro ?_ ?_))); done) | (simp (disch := omega) only [Bool.and_eq_true, Bool.or_eq_true, decide_eq_true_eq, bne_iff_ne, ne_eq] at *; first | done | omega | (intros; omega)) | (simp; done) | (simp; omega) | (simp +contextual; done) | (intro h; rw [h]; rfl) | (intro hq; have hq2 := hq; simp only [Bool.and_eq_true, Bool.or_eq_true, Bool.not_eq_true', Bool.not_not, Bool.not_eq_false', decide_eq_true_eq, decide_eq_false_iff_not] at hq2; (repeat' (first | exact hq | (with_reducible refine And.intro ?_ ?_) | omega | (simp_all; done))); done) | (intros; simp_all; done))); (focus (first | (simp [lsF]; done) | assumption | exact ⟨Nat.ne_of_lt (Nat.lt_succ_self _), by assumption⟩)); simp only [Tryz.ntmps99, List.map_cons, List.map_nil, List.nil_append, List.cons_append, List.append_nil, LV.tv, argEnv, Nat.zero_add, Nat.reduceAdd])
 | ((refine callN_ic (k := 74) Tryz.func74 rfl fnok_74 (by rw [Tryz.ntmps74]; simp) ?_ ?_ (fun K hK => ?_)); (focus (first | exact True.intro | (with_reducible assumption) | omega | (refine ⟨?_, ?_⟩ <;> omega) | (intro _; first | exact True.intro | (with_reducible assumption) | omega) | (intros; (repeat' (first | exact True.intro | omega | (with_reducible assumption) | (with_reducible refine And.intro ?_ ?_))); done) | (simp (disch := omega) only [Bool.and_eq_true, Bool.or_eq_true, decide_eq_true_eq, bne_iff_ne, ne_eq] at *; first | done | omega | (intros; omega)) | (simp; done) | (simp; omega) | (simp +contextual; done) | (intro h; rw [h]; rfl) | (intro hq; have hq2 := hq; simp only [Bool.and_eq_true, Bool.or_eq_true, Bool.not_eq_true', Bool.not_not, Bool.not_eq_false', decide_eq_true_eq, decide_eq_false_iff_not] at hq2; (repeat' (first | exact hq | (with_reducible refine And.intro ?_ ?_) | omega | (simp_all; done))); done) | (intros; simp_all; done))); (focus (first | (simp [lsF]; done) | assumption | exact ⟨Nat.ne_of_lt (Nat.lt_succ_self _), by assumption⟩)); simp only [Tryz.ntmps74, List.map_cons, List.map_nil, List.nil_append, List.cons_append, List.append_nil, LV.tv, argEnv, Nat.zero_add, Nat.reduceAdd]))
 | ((with_reducible refine hR6 _ (j + 1) ?_); (try clear hR6 KR))
 | ((with_reducible refine hR2 _ (t + 1) ?_); (try clear hR2 KR))
 | ((with_reducible refine Told.mk ?_); simp only [go_sem, reduceIte, reduceCtorEq, xA, xL, xD, xE, xM, xS, xB, stF0, stF1, intI, lsA_s, lsA_0, hle, he, hsq] <;> (first | exact True.intro | (((try simp (disch := omega) only [seaWrap, Int.natCast_add, Int.cast_ofNat_Int, and_true, true_and, and_self]); (repeat' (first | exact True.intro | omega | rfl | (with_reducible assumption) | (with_reducible refine And.intro ?_ ?_) | (exact all_succ (by assumption) (by assumption)) | ((exact all_succ (by assumption) ⟨by have := ix_of (S := x.S) (m := x.m) (by omega) (by assumption) hat; omega, by have := of_decide_eq_false hle; omega⟩)))); done)) | (((try simp (disch := omega) only [seaWrap, Int.natCast_add, Int.cast_ofNat_Int, and_true, true_and, and_self]); (repeat' (first | exact True.intro | omega | rfl | (with_reducible assumption) | (with_reducible refine And.intro ?_ ?_) | (exact all_succ (by assumption) (by assumption)) )); done)) | (refine Stuck.out ?_)))
 | ((fail_if_success (with_reducible show AW _ _ _ _)); simp (maxSteps := 2000000) only [go_sem, reduceIte, reduceCtorEq, xA, xL, xD, xE, xM, xS, xB, Tryz.f41, Tryz.f73, Tryz.f99, Tryz.f74, stF0, stF1, intI, lsA_s, lsA_0, hle, he, hsq])
 | ((fail_if_success (with_reducible show AW _ _ _ _)); simp (disch := omega) only [seaWrap, seaDiv, seaMod])
 | ((with_reducible refine hK _ ?_); clear hK K)
 | (with_reducible apply_assumption -exfalso only [*]))
  all_goals first
    | (have e0 := setF (S := x.S) (m := x.m) (q := q) (a := a) (j := j) (by omega) (set_f2 (of_decide_eq_true hle)); have e := ask_s (x := x) e0; have e2 := ask_e (x := x) (q := q) (a := a) (by omega); rw [e, e2.1, e2.2]; exact ⟨rfl, rfl, rfl⟩)
    | (have e0 := setF (S := x.S) (m := x.m) (q := q) (a := a) (j := j) (by omega) (set_f1 (ix_no (by omega) hat)); have e := ask_s (x := x) e0; have e2 := ask_e (x := x) (q := q) (a := a) (by omega); rw [e, e2.1, e2.2]; exact ⟨rfl, rfl, rfl⟩)
    | (have e := ask_2 (x := x) he hsb; have e2 := ask_e (x := x) (q := q) (a := a) (by omega); rw [e, e2.1, e2.2]; exact ⟨rfl, rfl, rfl⟩)
    | (have e := ask_0 (x := x) he hsb; rw [e.1, e.2.1, e.2.2.1, e.2.2.2]; exact ⟨⟨rfl, fun i o _ _ => IV.eqv_refl _⟩, rfl, rfl⟩)
    | (exfalso; simp at hc; omega)
    | skip
theorem asked_p (x : CaS) (hx : x.Ok) (q : Nat) (a : Nat → Int) (hqq : q ≤ 9223372036854775807) : CallsP Tryz.prog 41 [.one (.lst 9 x.n (featF x.f)), .one (.lst 2 x.m (stF x.S)), .one (.lst 1 x.mo (ptF x.O)), .one (.lst 1 q (intI a))] (.tup [.one (.lst 9 (askN x q a) (featF (askF x q a))), .one (.g (.bool (askB x q a))), .one (.g (.int .i64 (askE x q a)))]) := by
  by_cases he : cvE x = 1
  · exact ask_a x hx q a hqq he
  · by_cases he0 : cvE x = 0
    · exact ask_c x hx q a hqq he0
    · exact ask_b x hx q a hqq he he0
theorem std_p (x : CaS) (hx : x.Ok) (q : Nat) (a : Nat → Int) (hqq : q ≤ 9223372036854775807) : CallsP Tryz.prog 15 [.one (.lst 9 x.n (featF x.f)), .one (.lst 2 x.m (stF x.S)), .one (.lst 1 x.mo (ptF x.O)), .one (.lst 1 q (intI a))] (.tup [.one (.g (.bool (askB x q a))), .one (.g (.int .i64 (askE x q a)))]) := by
  refine CallsP_of Tryz.func15 rfl (by rw [Tryz.ntmps15]; simp) ?_
  simp only [Tryz.ntmps15, zM, PT.tv, argEnv, Nat.zero_add, Nat.reduceAdd]
  repeat' (first
 | ((with_reducible show AW _ _ _ _); first
 | (with_reducible first | refine aS (fun K hK => ?_) | refine aI ?_ | refine aX ?_ | refine aT ?_ | refine aC ?_ | refine aB ?_)
 | (first
 | (with_reducible first | refine aP 0 [0,1,2,3] ?_ | refine aP 1 [0,1,2,3] ?_ | refine aP 2 [11,12] ?_)))
 | ((first | (with_reducible refine And.intro ?_ ?_) | (with_reducible refine Need.mk ?_)); focus (first | exact True.intro | (with_reducible assumption) | omega | (refine ⟨?_, ?_⟩ <;> omega) | (intro _; first | exact True.intro | (with_reducible assumption) | omega) | (intros; (repeat' (first | exact True.intro | omega | (with_reducible assumption) | (with_reducible refine And.intro ?_ ?_))); done) | (simp (disch := omega) only [Bool.and_eq_true, Bool.or_eq_true, decide_eq_true_eq, bne_iff_ne, ne_eq] at *; first | done | omega | (intros; omega)) | (simp; done) | (simp; omega) | (simp +contextual; done) | (intro h; rw [h]; rfl) | (intro hq; have hq2 := hq; simp only [Bool.and_eq_true, Bool.or_eq_true, Bool.not_eq_true', Bool.not_not, Bool.not_eq_false', decide_eq_true_eq, decide_eq_false_iff_not] at hq2; (repeat' (first | exact hq | (with_reducible refine And.intro ?_ ?_) | omega | (simp_all; done))); done) | (intros; simp_all; done)))
 | (with_reducible refine retK_n ?_)
 | (with_reducible refine retK_n' ?_)
 | (with_reducible refine retH_n rfl rfl rfl ?_)
 | (with_reducible refine retH_n' rfl rfl rfl ?_)
 | ((with_reducible show condN _ _ _ _ _ _); first
 | ((with_reducible refine condN_t ?_ ?_) <;> (intro hc; (try simp only [zB, zC, reduceCtorEq] at hc); (try (exfalso; first | contradiction | omega)))))
 | ((with_reducible show callN _ _ _ _ _ _ _ _ _ _); first
 | (refine callN_q (k := 41) fnok_41 (asked_p x hx q a hqq) ?_ ?_))
 | ((fail_if_success (with_reducible show AW _ _ _ _)); simp (maxSteps := 2000000) only [go_sem, reduceIte, reduceCtorEq, xA, xL, xD, xE, xM, xS, xB, Tryz.f15])
 | ((with_reducible refine hK _ ?_); clear hK K))
theorem res_p (x : CaS) (hx : x.Ok) (q : Nat) (a : Nat → Int) (hqq : q ≤ 9223372036854775807) : CallsP Tryz.prog 17 [.one (.lst 9 x.n (featF x.f)), .one (.lst 2 x.m (stF x.S)), .one (.lst 1 x.mo (ptF x.O)), .one (.lst 1 q (intI a))] (.tup [.one (.lst 9 (reN x q a) (featF (askF x q a))), .one (.g (.int .i64 (reE x q a)))]) := by
  refine CallsP_of Tryz.func17 rfl (by rw [Tryz.ntmps17]; simp) ?_
  simp only [Tryz.ntmps17, zM, PT.tv, argEnv, Nat.zero_add, Nat.reduceAdd]
  repeat' (first
 | ((with_reducible show AW _ _ _ _); first
 | (with_reducible first | refine aS (fun K hK => ?_) | refine aI ?_ | refine aX ?_ | refine aT ?_ | refine aC ?_ | refine aB ?_)
 | (first
 | (with_reducible first | refine aP 0 [0,1,2,3] ?_ | refine aP 1 [0,1,2,3] ?_ | refine aP 2 [10,11,12] ?_ | refine aP 3 [12] ?_ | refine aP 4 [10,11] ?_ | refine aP 5 [] ?_ | refine aP 6 [10] ?_)))
 | ((first | (with_reducible refine And.intro ?_ ?_) | (with_reducible refine Need.mk ?_)); focus (first | exact True.intro | (with_reducible assumption) | omega | (refine ⟨?_, ?_⟩ <;> omega) | (intro _; first | exact True.intro | (with_reducible assumption) | omega) | (intros; (repeat' (first | exact True.intro | omega | (with_reducible assumption) | (with_reducible refine And.intro ?_ ?_))); done) | (simp (disch := omega) only [Bool.and_eq_true, Bool.or_eq_true, decide_eq_true_eq, bne_iff_ne, ne_eq] at *; first | done | omega | (intros; omega)) | (simp; done) | (simp; omega) | (simp +contextual; done) | (intro h; rw [h]; rfl) | (intro hq; have hq2 := hq; simp only [Bool.and_eq_true, Bool.or_eq_true, Bool.not_eq_true', Bool.not_not, Bool.not_eq_false', decide_eq_true_eq, decide_eq_false_iff_not] at hq2; (repeat' (first | exact hq | (with_reducible refine And.intro ?_ ?_) | omega | (simp_all; done))); done) | (intros; simp_all; done)))
 | (with_reducible refine retK_n ?_)
 | (with_reducible refine retK_n' ?_)
 | (with_reducible refine retH_n rfl rfl rfl ?_)
 | (with_reducible refine retH_n' rfl rfl rfl ?_)
 | ((with_reducible show condN _ _ _ _ _ _); first
 | ((with_reducible refine condN_t ?_ ?_) <;> (intro hc; (try simp only [zB, zC, reduceCtorEq] at hc); (try (exfalso; first | contradiction | omega)))))
 | ((with_reducible show callN _ _ _ _ _ _ _ _ _ _); first
 | (refine callN_q (k := 41) fnok_41 (asked_p x hx q a hqq) ?_ ?_))
 | ((fail_if_success (with_reducible show AW _ _ _ _)); simp (maxSteps := 2000000) only [go_sem, reduceIte, reduceCtorEq, xA, xL, xD, xE, xM, xS, xB, Tryz.f17])
 | ((with_reducible refine hK _ ?_); clear hK K))
  all_goals first
    | (have e := re_1 (x := x) (q := q) (a := a) (by omega); rw [e.1, e.2]; exact ⟨rfl, rfl⟩)
    | (have e := re_2 (x := x) (q := q) (a := a) (by omega) (by assumption); rw [e.1, e.2]; exact ⟨rfl, rfl⟩)
    | (have e := re_3 (x := x) (q := q) (a := a) (by omega) (by assumption); rw [e.1, e.2]; exact ⟨⟨rfl, fun i o _ _ => IV.eqv_refl _⟩, rfl⟩)
    | skip
end Go.Proofs.YtmnejmpjmniiiaaGreatDoor
set_option maxRecDepth 100000
set_option maxHeartbeats 4000000
namespace Go.Proofs.YtmnejmpjmniiiaaGreatDoor
open Go.RowKit Go.Sea
open Nat renaming reduceAdd → xA, reduceLT → xL, reduceLeDiff → xD, reduceEqDiff → xE, reduceMul → xM, reduceSub → xS, reduceBEq → xB
theorem fnok_46 : fnOk Tryz.prog 46 = true := by kernel_rfl
theorem fnok_47 : fnOk Tryz.prog 47 = true := by kernel_rfl
theorem fnok_50 : fnOk Tryz.prog 50 = true := by kernel_rfl
theorem fnok_51 : fnOk Tryz.prog 51 = true := by kernel_rfl
theorem fnok_52 : fnOk Tryz.prog 52 = true := by kernel_rfl
theorem fnok_53 : fnOk Tryz.prog 53 = true := by kernel_rfl
theorem fnok_56 : fnOk Tryz.prog 56 = true := by kernel_rfl
theorem fnok_57 : fnOk Tryz.prog 57 = true := by kernel_rfl
theorem fnok_58 : fnOk Tryz.prog 58 = true := by kernel_rfl
theorem fnok_80 : fnOk Tryz.prog 80 = true := by kernel_rfl
theorem ty_94 : tyD Tryz.prog 94 = some (false, 1) := by kernel_rfl
theorem ty_96 : tyD Tryz.prog 96 = some (false, 1) := by kernel_rfl
theorem zc_68 : zeroC Tryz.prog 68 = some [.iv (.g (.pointer none))] := by kernel_rfl
attribute [go_sem] fnok_46 fnok_51 fnok_52 fnok_53 fnok_58 ty_94 ty_96 zc_68
def worC (s t : Nat) : Bool := decide (cnt t < cnt s) || (decide (cnt t = cnt s) && befB t s)
def worR (s t : Nat) : Bool := decide (cnt s < cnt t) || (decide (cnt t = cnt s) && befB t s)
def bst (w : Nat → Nat → Bool) (g : Nat → Bool) : Nat → Nat × Bool
  | 0 => (0, false)
  | s + 1 => if ((!(bst w g s).2 || w (bst w g s).1 s) && g s) = true then (s, true) else bst w g s
theorem bst_cs (w : Nat → Nat → Bool) (g : Nat → Bool) (s : Nat) :
    ((bst w g s).2 = false ∧ True ∧ g s = true ∧ bst w g (s + 1) = (s, true)) ∨ ((bst w g s).2 = false ∧ True ∧ g s = false ∧ bst w g (s + 1) = bst w g s) ∨
    ((bst w g s).2 = true ∧ w (bst w g s).1 s = false ∧ True ∧ bst w g (s + 1) = bst w g s) ∨ ((bst w g s).2 = true ∧ w (bst w g s).1 s = true ∧ g s = true ∧ bst w g (s + 1) = (s, true)) ∨
    ((bst w g s).2 = true ∧ w (bst w g s).1 s = true ∧ g s = false ∧ bst w g (s + 1) = bst w g s) := by
  have e : bst w g (s + 1) = if ((!(bst w g s).2 || w (bst w g s).1 s) && g s) = true then (s, true) else bst w g s := rfl
  rw [e]
  cases (bst w g s).2 <;> cases w (bst w g s).1 s <;> cases g s <;> simp
theorem bst_0 (w : Nat → Nat → Bool) (g : Nat → Bool) : bst w g 0 = (0, false) := rfl
theorem bst_in {w : Nat → Nat → Bool} {g : Nat → Bool} {m : Nat} : ∀ {s : Nat}, s ≤ 2 ^ m → inS m (bst w g s).1
  | 0, _ => Nat.pow_pos (by decide)
  | s + 1, h => by
    have ih := bst_in (w := w) (g := g) (m := m) (s := s) (by omega)
    rcases bst_cs w g s with e | e | e | e | e <;> rw [e.2.2.2]
    all_goals first | exact ih | exact (show s < 2 ^ m by omega)
theorem clo_in {x : CaS} (he : cvE x = 0) {s : Nat} (h : inS x.m s) : inS x.m (cloN (opP x) s) := by
  obtain ⟨hv, _, _, _, hm, _⟩ := cv_ok he
  have key : ∀ (l : List Nat) (a : Nat), a < 2 ^ x.m → (∀ i, i ∈ l → i < x.m) → orL (opP x) a l < 2 ^ x.m := by
    intro l
    induction l with
    | nil => intro a h _; exact h
    | cons i l ih =>
      intro a ha hl
      have hi := hl i (List.mem_cons_self ..)
      exact ih _ (Nat.or_lt_two_pow ha (Nat.lt_trans (pstN_lt hv hm hi) (Nat.pow_lt_pow_right (by decide) hi))) fun j hj => hl j (List.mem_cons_of_mem _ hj)
  exact key (bl s) s h fun i hi => inS_mem h hi
theorem all_in (m : Nat) : inS m (2 ^ m - 1) := by have : 0 < 2 ^ m := Nat.pow_pos (by decide); show 2 ^ m - 1 < 2 ^ m; omega
def isC (x : CaS) (s : Nat) : Bool := !behB (opY x) (cloN (opP x) s)
def isR (x : CaS) (s : Nat) : Bool := behB (opY x) s
def coB (x : CaS) : Nat × Bool := bst worC (isC x) (2 ^ x.m)
def rpB (x : CaS) : Nat × Bool := bst worR (isR x) (2 ^ x.m)
def coE (x : CaS) : Int := if cvE x = 0 then (if (coB x).2 = true then 0 else 4) else cvE x
def coL (x : CaS) : List Int := if cvE x = 0 then (if (coB x).2 = true then wrL x.S (bl (coB x).1) else []) else []
def rpL (x : CaS) : List Int := if cvE x = 0 then wrL x.S (bl (rpB x).1) else []
def wthN (P : Nat → Nat) (m i : Nat) : Nat → Nat
  | 0 => (2 ^ m - 1) ^^^ ((2 ^ m - 1) &&& 2 ^ i)
  | k + 1 => if (P k).testBit i = true then wthN P m i k ^^^ (wthN P m i k &&& 2 ^ k) else wthN P m i k
theorem wth_t {P : Nat → Nat} {m i k : Nat} (h : (P k).testBit i = true) : wthN P m i (k + 1) = wthN P m i k ^^^ (wthN P m i k &&& 2 ^ k) := if_pos h
theorem wth_f {P : Nat → Nat} {m i k : Nat} (h : (P k).testBit i = false) : wthN P m i (k + 1) = wthN P m i k := if_neg (by rw [h]; simp)
theorem wth_in {P : Nat → Nat} {m i : Nat} : ∀ k, inS m (wthN P m i k)
  | 0 => Nat.xor_lt_two_pow (all_in m) (Nat.lt_of_le_of_lt Nat.and_le_left (all_in m))
  | k + 1 => by
    have := wth_in (P := P) (m := m) (i := i) k
    show (if _ then _ else _) < _
    split
    · exact Nat.xor_lt_two_pow this (Nat.lt_of_le_of_lt Nat.and_le_left this)
    · exact this
def blI (x : CaS) : Nat → List Int
  | 0 => []
  | i + 1 => if behB (opY x) (wthN (opP x) x.m i x.m) = true then blI x i ++ [(x.S i).nu] else blI x i
theorem blI_0 (x : CaS) : blI x 0 = [] := rfl
theorem blI_t {x : CaS} {i : Nat} (h : behB (opY x) (wthN (opP x) x.m i x.m) = true) : blI x (i + 1) = blI x i ++ [(x.S i).nu] := if_pos h
theorem blI_f {x : CaS} {i : Nat} (h : behB (opY x) (wthN (opP x) x.m i x.m) = false) : blI x (i + 1) = blI x i := if_neg (by rw [h]; simp)
theorem blI_le (x : CaS) : ∀ i, (blI x i).length ≤ i
  | 0 => Nat.le_refl _
  | i + 1 => by
    have := blI_le x i
    show (if _ then _ else _ : List Int).length ≤ _
    split
    · simp; omega
    · omega
def blE (x : CaS) : Int := if cvE x = 0 then (if behB (opY x) (2 ^ x.m - 1) = true then 4 else 0) else cvE x
def blL (x : CaS) : List Int := if cvE x = 0 then (if behB (opY x) (2 ^ x.m - 1) = true then [] else blI x x.m) else []
theorem opY_x (x : CaS) : (opY x).x = x := rfl
theorem u_s1 {s : Nat} (h : s < 1024) : IntKind.u64.wrap ((s : Int) + 1) = ((s + 1 : Nat) : Int) := by rw [IntKind.wrap_u64]; omega
theorem worC_p (s t : Nat) (hs : s < 1024) (ht : t < 1024) : CallsP Tryz.prog 50 [.one (.g (.int .u64 ((s : Int)))), .one (.g (.int .u64 ((t : Int))))] (.t (.one (.g (.bool (worC s t))))) := by
  refine CallsP_of Tryz.func50 rfl (by rw [Tryz.ntmps50]; simp) ?_
  simp only [Tryz.ntmps50, zM, PT.tv, argEnv, Nat.zero_add, Nat.reduceAdd]
  repeat' (first
 | ((with_reducible show callGN _ _ false _ _ _ _ _ _ _); (with_reducible refine callGN_sq (fun h => by cases h) (fun _ => ?_)))
 | ((with_reducible show callGK _ _ false _ _ _ _); (with_reducible refine callGK_s (fun h => by cases h) (fun _ => ?_)))
 | ((with_reducible show AW _ _ _ _); first
 | (with_reducible first | refine aS (fun K hK => ?_) | refine aI ?_ | refine aX ?_ | refine aT ?_ | refine aC ?_ | refine aB ?_)
 | (first
 | (with_reducible first | refine aP 0 [0,1] ?_ | refine aP 1 [0,1] ?_)))
 | ((first | (with_reducible refine And.intro ?_ ?_) | (with_reducible refine Need.mk ?_)); focus (first | exact True.intro | (with_reducible assumption) | omega | (refine ⟨?_, ?_⟩ <;> omega) | (intro _; first | exact True.intro | (with_reducible assumption) | omega) | (intros; (repeat' (first | exact True.intro | omega | (with_reducible assumption) | (with_reducible refine And.intro ?_ ?_))); done) | (simp (disch := omega) only [Bool.and_eq_true, Bool.or_eq_true, decide_eq_true_eq, bne_iff_ne, ne_eq] at *; first | done | omega | (intros; omega)) | (simp; done) | (simp; omega) | (simp +contextual; done) | (intro h; rw [h]; rfl) | (intro hq; have hq2 := hq; simp only [Bool.and_eq_true, Bool.or_eq_true, Bool.not_eq_true', Bool.not_not, Bool.not_eq_false', decide_eq_true_eq, decide_eq_false_iff_not] at hq2; (repeat' (first | exact hq | (with_reducible refine And.intro ?_ ?_) | omega | (simp_all; done))); done) | (intros; simp_all; done)))
 | (with_reducible refine retK_n ?_)
 | (with_reducible refine retK_n' ?_)
 | (with_reducible refine retH_n rfl rfl rfl ?_)
 | (with_reducible refine retH_n' rfl rfl rfl ?_)
 | ((with_reducible show condN _ _ _ _ _ _); first
 | ((with_reducible refine condN_t ?_ ?_) <;> (intro hc; (try simp only [zB, zC, reduceCtorEq] at hc); (try (exfalso; first | contradiction | omega)))))
 | ((with_reducible show callN _ _ _ _ _ _ _ _ _ _); first
 | (refine callN_q (k := 51) fnok_51 (size_p t ht) ?_ ?_)
 | (refine callN_q (k := 51) fnok_51 (size_p s hs) ?_ ?_))
 | ((with_reducible show callGN _ _ _ _ _ _ _ _ _ _); first
 | (refine callGN_q (k := 51) fnok_51 (fun hg => size_p t ht) ?_ ?_)
 | (refine callGN_q (k := 51) fnok_51 (fun hg => size_p s hs) ?_ ?_)
 | (refine callGN_q (k := 52) fnok_52 (fun hg => bef_p t s ht hs) ?_ ?_))
 | ((fail_if_success (with_reducible show AW _ _ _ _)); simp (maxSteps := 2000000) only [go_sem, reduceIte, reduceCtorEq, xA, xL, xD, xE, xM, xS, xB, Tryz.f50])
 | ((with_reducible refine hK _ ?_); clear hK K))
  all_goals (have e1 : decide ((cnt t : Int) < cnt s) = decide (cnt t < cnt s) := decide_eq_decide.2 (by omega); have e2 : ((cnt t : Int) == cnt s) = decide (cnt t = cnt s) := (by rw [Bool.eq_iff_iff]; simp only [beq_iff_eq, decide_eq_true_eq]; omega); rw [e1, e2]; rfl)
theorem worR_p (s t : Nat) (hs : s < 1024) (ht : t < 1024) : CallsP Tryz.prog 57 [.one (.g (.int .u64 ((s : Int)))), .one (.g (.int .u64 ((t : Int))))] (.t (.one (.g (.bool (worR s t))))) := by
  refine CallsP_of Tryz.func57 rfl (by rw [Tryz.ntmps57]; simp) ?_
  simp only [Tryz.ntmps57, zM, PT.tv, argEnv, Nat.zero_add, Nat.reduceAdd]
  repeat' (first
 | ((with_reducible show callGN _ _ false _ _ _ _ _ _ _); (with_reducible refine callGN_sq (fun h => by cases h) (fun _ => ?_)))
 | ((with_reducible show callGK _ _ false _ _ _ _); (with_reducible refine callGK_s (fun h => by cases h) (fun _ => ?_)))
 | ((with_reducible show AW _ _ _ _); first
 | (with_reducible first | refine aS (fun K hK => ?_) | refine aI ?_ | refine aX ?_ | refine aT ?_ | refine aC ?_ | refine aB ?_)
 | (first
 | (with_reducible first | refine aP 0 [0,1] ?_ | refine aP 1 [0,1] ?_)))
 | ((first | (with_reducible refine And.intro ?_ ?_) | (with_reducible refine Need.mk ?_)); focus (first | exact True.intro | (with_reducible assumption) | omega | (refine ⟨?_, ?_⟩ <;> omega) | (intro _; first | exact True.intro | (with_reducible assumption) | omega) | (intros; (repeat' (first | exact True.intro | omega | (with_reducible assumption) | (with_reducible refine And.intro ?_ ?_))); done) | (simp (disch := omega) only [Bool.and_eq_true, Bool.or_eq_true, decide_eq_true_eq, bne_iff_ne, ne_eq] at *; first | done | omega | (intros; omega)) | (simp; done) | (simp; omega) | (simp +contextual; done) | (intro h; rw [h]; rfl) | (intro hq; have hq2 := hq; simp only [Bool.and_eq_true, Bool.or_eq_true, Bool.not_eq_true', Bool.not_not, Bool.not_eq_false', decide_eq_true_eq, decide_eq_false_iff_not] at hq2; (repeat' (first | exact hq | (with_reducible refine And.intro ?_ ?_) | omega | (simp_all; done))); done) | (intros; simp_all; done)))
 | (with_reducible refine retK_n ?_)
 | (with_reducible refine retK_n' ?_)
 | (with_reducible refine retH_n rfl rfl rfl ?_)
 | (with_reducible refine retH_n' rfl rfl rfl ?_)
 | ((with_reducible show condN _ _ _ _ _ _); first
 | ((with_reducible refine condN_t ?_ ?_) <;> (intro hc; (try simp only [zB, zC, reduceCtorEq] at hc); (try (exfalso; first | contradiction | omega)))))
 | ((with_reducible show callN _ _ _ _ _ _ _ _ _ _); first
 | (refine callN_q (k := 51) fnok_51 (size_p t ht) ?_ ?_)
 | (refine callN_q (k := 51) fnok_51 (size_p s hs) ?_ ?_))
 | ((with_reducible show callGN _ _ _ _ _ _ _ _ _ _); first
 | (refine callGN_q (k := 51) fnok_51 (fun hg => size_p t ht) ?_ ?_)
 | (refine callGN_q (k := 51) fnok_51 (fun hg => size_p s hs) ?_ ?_)
 | (refine callGN_q (k := 52) fnok_52 (fun hg => bef_p t s ht hs) ?_ ?_))
 | ((fail_if_success (with_reducible show AW _ _ _ _)); simp (maxSteps := 2000000) only [go_sem, reduceIte, reduceCtorEq, xA, xL, xD, xE, xM, xS, xB, Tryz.f57])
 | ((with_reducible refine hK _ ?_); clear hK K))
  all_goals (have e1 : decide ((cnt t : Int) > cnt s) = decide (cnt s < cnt t) := decide_eq_decide.2 (by omega); have e2 : ((cnt t : Int) == cnt s) = decide (cnt t = cnt s) := (by rw [Bool.eq_iff_iff]; simp only [beq_iff_eq, decide_eq_true_eq]; omega); rw [e1, e2]; rfl)
theorem core_f (x : CaS) (hx : x.Ok) (he : cvE x ≠ 0) : CallsP Tryz.prog 21 [.one (.lst 9 x.n (featF x.f)), .one (.lst 2 x.m (stF x.S)), .one (.lst 1 x.mo (ptF x.O))] (.tup [.one (.lst 1 (coL x).length (intI (zL (coL x)))), .one (.g (.int .i64 (coE x)))]) := by
  refine CallsP_of Tryz.func21 rfl (by rw [Tryz.ntmps21]; simp) ?_
  simp only [Tryz.ntmps21, zM, PT.tv, argEnv, Nat.zero_add, Nat.reduceAdd]
  repeat' (first
 | ((with_reducible show AW _ _ _ _); first
 | (with_reducible first | refine aS (fun K hK => ?_) | refine aI ?_ | refine aX ?_ | refine aT ?_ | refine aC ?_ | refine aB ?_)
 | (first
 | (with_reducible first | refine aP 0 [0,1,2] ?_ | refine aP 1 [0,1,2] ?_ | refine aP 2 [8,9] ?_ | refine aP 3 [9] ?_ | refine aP 5 [8,10,11] ?_ | refine aP 6 [] ?_)))
 | ((first | (with_reducible refine And.intro ?_ ?_) | (with_reducible refine Need.mk ?_)); focus (first | exact True.intro | (with_reducible assumption) | omega | (refine ⟨?_, ?_⟩ <;> omega) | (intro _; first | exact True.intro | (with_reducible assumption) | omega) | (intros; (repeat' (first | exact True.intro | omega | (with_reducible assumption) | (with_reducible refine And.intro ?_ ?_))); done) | (simp (disch := omega) only [Bool.and_eq_true, Bool.or_eq_true, decide_eq_true_eq, bne_iff_ne, ne_eq] at *; first | done | omega | (intros; omega)) | (simp; done) | (simp; omega) | (simp +contextual; done) | (intro h; rw [h]; rfl) | (intro hq; have hq2 := hq; simp only [Bool.and_eq_true, Bool.or_eq_true, Bool.not_eq_true', Bool.not_not, Bool.not_eq_false', decide_eq_true_eq, decide_eq_false_iff_not] at hq2; (repeat' (first | exact hq | (with_reducible refine And.intro ?_ ?_) | omega | (simp_all; done))); done) | (intros; simp_all; done)))
 | (with_reducible refine retK_n ?_)
 | (with_reducible refine retK_n' ?_)
 | (with_reducible refine retH_n rfl rfl rfl ?_)
 | (with_reducible refine retH_n' rfl rfl rfl ?_)
 | ((with_reducible show condN _ _ _ _ _ _); first
 | ((with_reducible refine condN_t ?_ ?_) <;> (intro hc; (try simp only [zB, zC, reduceCtorEq] at hc); ((try (exfalso; omega))); (try (exfalso; first | contradiction | omega)))))
 | ((with_reducible show callN _ _ _ _ _ _ _ _ _ _); first
 | (refine callN_q (k := 37) fnok_37 (opn_f x hx he) ?_ ?_))
 | ((fail_if_success (with_reducible show AW _ _ _ _)); simp (maxSteps := 2000000) only [go_sem, reduceIte, reduceCtorEq, xA, xL, xD, xE, xM, xS, xB, Tryz.f21])
 | ((with_reducible refine hK _ ?_); clear hK K))
  all_goals (first | (exfalso; omega) | (unfold coL coE; rw [if_neg he, if_neg he]; exact ⟨rfl, rfl⟩) | (unfold coL coE; rw [if_neg he]; first | exact ⟨rfl, rfl⟩ | rfl) | skip)
theorem is_c {x : CaS} {s : Nat} {b : Bool} (h : isC x s = b) : behB (opY x) (cloN (opP x) s) = !b := by rw [← h]; unfold isC; rw [Bool.not_not]
theorem core_t (x : CaS) (hx : x.Ok) (he : cvE x = 0) : CallsP Tryz.prog 21 [.one (.lst 9 x.n (featF x.f)), .one (.lst 2 x.m (stF x.S)), .one (.lst 1 x.mo (ptF x.O))] (.tup [.one (.lst 1 (coL x).length (intI (zL (coL x)))), .one (.g (.int .i64 (coE x)))]) := by
  obtain ⟨_, _, _, _, hm, _⟩ := cv_ok he
  have h2p : 0 < 2 ^ x.m := Nat.pow_pos (by decide)
  have mk0 : True := trivial
  have mk1 : True := trivial
  have hf : True := trivial
  have hw : True := trivial
  have hg : True := trivial
  have hbs : True := trivial
  have hsw : True := trivial
  have hig : True := trivial
  refine CallsP_of Tryz.func21 rfl (by rw [Tryz.ntmps21]; simp) ?_
  simp only [Tryz.ntmps21, zM, PT.tv, argEnv, Nat.zero_add, Nat.reduceAdd]
  repeat' (first
 | ((with_reducible show callGN _ _ false _ _ _ _ _ _ _); (with_reducible refine callGN_sq (fun h => by cases h) (fun _ => ?_)))
 | ((with_reducible show callGK _ _ false _ _ _ _); (with_reducible refine callGK_s (fun h => by cases h) (fun _ => ?_)))
 | ((with_reducible show callGK _ _ true (Oper.mk _ (Op.call _) _ _ _ _) _ _ _); (with_reducible refine callGK_s (fun _ => ?_) (fun h => by cases h)))
 | ((with_reducible show callGN _ _ true _ _ _ _ _ _ _); (with_reducible refine callGN_sq (fun _ => ?_) (fun h => by cases h)))
 | ((with_reducible show callGN _ _ _ _ _ _ _ _ _ _); first
 | ((refine callGN_sq ?_ ?_) <;> (intro hc; (try rw [hc]); (try simp only [zB, zC, reduceCtorEq] at hc); (try (exfalso; first | contradiction | omega))))
 | (refine callGN_q (k := 50) fnok_50 (fun hg => worC_p (bst worC (isC x) s).1 s (inS_lt hm hbi) (inS_lt hm hin)) ?_ ?_))
 | ((with_reducible show AW _ _ _ _); first
 | (with_reducible first | refine aS (fun K hK => ?_) | refine aI ?_ | refine aX ?_ | refine aT ?_ | refine aC ?_ | refine aB ?_)
 | (first
 | (with_reducible first | refine aP (ops := #[⟨some 6, _, _, _, _, _⟩, _]) 0 [0,1,2] ?_ | refine aP (ops := #[⟨some 4, _, _, _, _, _⟩, _, _, _]) 0 [0,1,2] ?_ | refine aP (ops := #[⟨some 6, _, _, _, _, _⟩, _, _, _, _, _, _, _, _, _, _, _, _]) 0 [0,1,2,3,4] ?_ | refine aP (ops := #[⟨some 3, _, _, _, _, _⟩]) 0 [0,1] ?_ | refine aP (ops := #[⟨some 13, _, _, _, _, _⟩, _, _, _, _, _, _, _, _, _]) 1 [0,1,2] ?_ | refine aP (ops := #[⟨some 8, _, _, _, _, _⟩]) 1 [0,4,5] ?_ | refine aP (ops := #[⟨some 19, _, _, _, _, _⟩, _, _]) 1 [0,1,3] ?_)
 | ((with_reducible refine aR (c := Code.region 1 _ true) [0,1] ?_); (with_reducible refine aD ?_ ?_ ?_ ?_); (focus kernel_rfl); (focus kernel_rfl); (focus kernel_rfl))
 | (with_reducible first | refine aP (ops := #[⟨some 19, _, _, _, _, _⟩, _]) 2 [8,9] ?_ | refine aP (ops := #[⟨some 9, _, _, _, _, _⟩, _]) 2 [0,4,5,8] ?_ | refine aP (ops := #[⟨some 14, _, _, _, _, _⟩, _, _]) 2 [5] ?_ | refine aP (ops := #[⟨some 21, _, _, _, _, _⟩, _, _]) 3 [9] ?_ | refine aP (ops := #[⟨some 12, _, _, _, _, _⟩, _]) 3 [0,4,5,8,9] ?_ | refine aP (ops := #[⟨some 23, _, _, _, _, _⟩, _, _, _, _, _, _, _]) 4 [8] ?_ | refine aP (ops := #[⟨some 11, _, _, _, _, _⟩]) 4 [0,8,9,10] ?_ | refine aP (ops := #[⟨some 28, _, _, _, _, _⟩, _]) 5 [8,10,11] ?_ | refine aP (ops := #[⟨some 13, _, _, _, _, _⟩, _, _, _]) 5 [0,8,9,10,11] ?_ | refine aP (ops := #[⟨some 6, _, _, _, _, _⟩, _]) 6 [] ?_ | refine aP (ops := #[⟨some 17, _, _, _, _, _⟩, _, _]) 6 [0,8,9,10,11] ?_ | refine aP (ops := #[⟨some 30, _, _, _, _, _⟩, _, _, _, _]) 7 [8,10] ?_ | refine aP (ops := #[⟨some 19, _, _, _, _, _⟩, _, _]) 7 [0,8,9,10,11] ?_)
 | ((with_reducible refine aR (c := Code.region 8 _ true) [8,9] ?_); (with_reducible refine aD ?_ ?_ ?_ ?_); (focus kernel_rfl); (focus kernel_rfl); (focus kernel_rfl)))
 | ((with_reducible show AW _ (Code.loop _) _ _); first
 | ((with_reducible refine aL (c := (Code.seq (Code.seq (Code.region 5 _ _) _) _)) (ι := Nat) [0,8,9,10] (fun s => [(11, .t (.one (.iv (.g (.int .u64 (s : Int))))))]) (fun s => [(3, [.iv (.g (.int .u64 ((bst worC (isC x) s).1 : Nat)))]), (4, [.iv (.g (.bool (bst worC (isC x) s).2))])]) (fun s => s ≤ 2 ^ x.m) (fun s => 2 ^ x.m - s) 0 ?lg5 ?l15 ?l25 ?li5 ?lr5); (case' lg5 => rintro s _); (case' li5 => try (exact Nat.zero_le _)); (case' lr5 => rintro s hsI KR hR5; simp only [keepE, hupd, hset, lk, if_true, if_false, xE, reduceIte, zN, opY_x, he, hf, hw, hbs, hsw, hig, bst_0]))))
 | ((first | (with_reducible refine And.intro ?_ ?_) | (with_reducible refine Need.mk ?_)); focus (first | exact True.intro | (with_reducible assumption) | omega | (refine ⟨?_, ?_⟩ <;> omega) | (intro _; first | exact True.intro | (with_reducible assumption) | omega) | (intros; (repeat' (first | exact True.intro | omega | (with_reducible assumption) | (with_reducible refine And.intro ?_ ?_))); done) | (simp (disch := omega) only [Bool.and_eq_true, Bool.or_eq_true, decide_eq_true_eq, bne_iff_ne, ne_eq] at *; first | done | omega | (intros; omega)) | (simp; done) | (simp; omega) | (simp +contextual; done) | (intro h; rw [h]; rfl) | (intro hq; have hq2 := hq; simp only [Bool.and_eq_true, Bool.or_eq_true, Bool.not_eq_true', Bool.not_not, Bool.not_eq_false', decide_eq_true_eq, decide_eq_false_iff_not] at hq2; (repeat' (first | exact hq | (with_reducible refine And.intro ?_ ?_) | omega | (simp_all; done))); done) | (intros; simp_all; done)))
 | (with_reducible refine retK_n ?_)
 | (with_reducible refine retK_n' ?_)
 | (with_reducible refine retH_n rfl rfl rfl ?_)
 | (with_reducible refine retH_n' rfl rfl rfl ?_)
 | ((with_reducible show condN _ _ _ _ _ _); first
 | ((with_reducible refine condN_t ?_ ?_) <;> (intro hc; (try simp only [zB, zC, reduceCtorEq] at hc); ((try (exfalso; omega)); (try (clear mk0 hf hw hg hbs hsw hig; have hin : inS x.m s := (by show s < 2 ^ x.m; omega); have hbi := bst_in (w := worC) (g := (isC x)) (m := x.m) (s := s) hsI; have hs1 := inS_lt hm hin; have hsw := u_s1 hs1; rcases bst_cs worC (isC x) s with ⟨hf, hw, hg, hbs⟩ | ⟨hf, hw, hg, hbs⟩ | ⟨hf, hw, hg, hbs⟩ | ⟨hf, hw, hg, hbs⟩ | ⟨hf, hw, hg, hbs⟩; all_goals (first | (have hig := is_c hg) | (have hig := hw)))); (try (clear mk1; have e0 : s = 2 ^ x.m := (by omega); subst e0; have hbi := bst_in (w := worC) (g := (isC x)) (m := x.m) (s := 2 ^ x.m) hsI))); (try (exfalso; first | contradiction | omega)))))
 | ((with_reducible refine And.intro ?_ ?_); focus ((with_reducible show chkR _ _ _ = true); kernel_rfl))
 | ((with_reducible show callN _ _ _ _ _ _ _ _ _ _); first
 | (refine callN_q (k := 37) fnok_37 (opn_t x hx he) ?_ ?_)
 | (refine callN_q (k := 58) fnok_58 (all_p (opY x) (opY_ok hx he)) ?_ ?_)
 | (refine callN_q (k := 48) fnok_48 (beh_p (opY x) (opY_ok hx he) (cloN (opP x) s) (clo_in he hin)) ?_ ?_)
 | (refine callN_q (k := 50) fnok_50 (worC_p (bst worC (isC x) s).1 s (inS_lt hm hbi) (inS_lt hm hin)) ?_ ?_)
 | (refine callN_q (k := 53) fnok_53 (wri_p (opY x) (opY_ok hx he) (bst worC (isC x) (2 ^ x.m)).1 hbi) ?_ ?_)
 | (refine callN_q (k := 49) fnok_49 (clo_p (opY x) (opY_ok hx he) s hin) ?_ ?_)
 | ((refine callN_i (k := 46) Tryz.func46 rfl fnok_46 (by rw [Tryz.ntmps46]; simp) ?_ ?_ (fun K hK => ?_)); (focus (first | exact True.intro | (with_reducible assumption) | omega | (refine ⟨?_, ?_⟩ <;> omega) | (intro _; first | exact True.intro | (with_reducible assumption) | omega) | (intros; (repeat' (first | exact True.intro | omega | (with_reducible assumption) | (with_reducible refine And.intro ?_ ?_))); done) | (simp (disch := omega) only [Bool.and_eq_true, Bool.or_eq_true, decide_eq_true_eq, bne_iff_ne, ne_eq] at *; first | done | omega | (intros; omega)) | (simp; done) | (simp; omega) | (simp +contextual; done) | (intro h; rw [h]; rfl) | (intro hq; have hq2 := hq; simp only [Bool.and_eq_true, Bool.or_eq_true, Bool.not_eq_true', Bool.not_not, Bool.not_eq_false', decide_eq_true_eq, decide_eq_false_iff_not] at hq2; (repeat' (first | exact hq | (with_reducible refine And.intro ?_ ?_) | omega | (simp_all; done))); done) | (intros; simp_all; done))); (focus (first | (simp [lsF]; done) | assumption | exact ⟨Nat.ne_of_lt (Nat.lt_succ_self _), by assumption⟩)); simp only [Tryz.ntmps46, List.map_cons, List.map_nil, List.nil_append, List.cons_append, List.append_nil, LV.tv, argEnv, Nat.zero_add, Nat.reduceAdd])
 | ((refine callN_ic (k := 80) Tryz.func80 rfl fnok_80 (by rw [Tryz.ntmps80]; simp) ?_ ?_ (fun K hK => ?_)); (focus (first | exact True.intro | (with_reducible assumption) | omega | (refine ⟨?_, ?_⟩ <;> omega) | (intro _; first | exact True.intro | (with_reducible assumption) | omega) | (intros; (repeat' (first | exact True.intro | omega | (with_reducible assumption) | (with_reducible refine And.intro ?_ ?_))); done) | (simp (disch := omega) only [Bool.and_eq_true, Bool.or_eq_true, decide_eq_true_eq, bne_iff_ne, ne_eq] at *; first | done | omega | (intros; omega)) | (simp; done) | (simp; omega) | (simp +contextual; done) | (intro h; rw [h]; rfl) | (intro hq; have hq2 := hq; simp only [Bool.and_eq_true, Bool.or_eq_true, Bool.not_eq_true', Bool.not_not, Bool.not_eq_false', decide_eq_true_eq, decide_eq_false_iff_not] at hq2; (repeat' (first | exact hq | (with_reducible refine And.intro ?_ ?_) | omega | (simp_all; done))); done) | (intros; simp_all; done))); (focus (first | (simp [lsF]; done) | assumption | exact ⟨Nat.ne_of_lt (Nat.lt_succ_self _), by assumption⟩)); simp only [Tryz.ntmps80, List.map_cons, List.map_nil, List.nil_append, List.cons_append, List.append_nil, LV.tv, argEnv, Nat.zero_add, Nat.reduceAdd])
 | ((refine callN_ic (k := 47) Tryz.func47 rfl fnok_47 (by rw [Tryz.ntmps47]; simp) ?_ ?_ (fun K hK => ?_)); (focus (first | exact True.intro | (with_reducible assumption) | omega | (refine ⟨?_, ?_⟩ <;> omega) | (intro _; first | exact True.intro | (with_reducible assumption) | omega) | (intros; (repeat' (first | exact True.intro | omega | (with_reducible assumption) | (with_reducible refine And.intro ?_ ?_))); done) | (simp (disch := omega) only [Bool.and_eq_true, Bool.or_eq_true, decide_eq_true_eq, bne_iff_ne, ne_eq] at *; first | done | omega | (intros; omega)) | (simp; done) | (simp; omega) | (simp +contextual; done) | (intro h; rw [h]; rfl) | (intro hq; have hq2 := hq; simp only [Bool.and_eq_true, Bool.or_eq_true, Bool.not_eq_true', Bool.not_not, Bool.not_eq_false', decide_eq_true_eq, decide_eq_false_iff_not] at hq2; (repeat' (first | exact hq | (with_reducible refine And.intro ?_ ?_) | omega | (simp_all; done))); done) | (intros; simp_all; done))); (focus (first | (simp [lsF]; done) | assumption | exact ⟨Nat.ne_of_lt (Nat.lt_succ_self _), by assumption⟩)); simp only [Tryz.ntmps47, List.map_cons, List.map_nil, List.nil_append, List.cons_append, List.append_nil, LV.tv, argEnv, Nat.zero_add, Nat.reduceAdd]))
 | ((with_reducible show callDN _ _ _ _ _ _ _ _ _ _ _ _ _); first
 | (refine callDN_q (k := 48) fnok_48 (beh_p (opY x) (opY_ok hx he) (cloN (opP x) s) (clo_in he hin)) ?_ ?_)
 | (refine callDN_q (k := 50) fnok_50 (worC_p (bst worC (isC x) s).1 s (inS_lt hm hbi) (inS_lt hm hin)) ?_ ?_)
 | (refine callDN_q (k := 49) fnok_49 (clo_p (opY x) (opY_ok hx he) s hin) ?_ ?_))
 | ((with_reducible show callDGN _ _ _ _ _ _ _ _ _ _ _ _ _); first
 | (refine callDGN_q (k := 50) fnok_50 (fun hg => worC_p (bst worC (isC x) s).1 s (inS_lt hm hbi) (inS_lt hm hin)) ?_ ?_))
 | ((with_reducible refine hR5 _ (s + 1) ?_); (try clear hR5 KR))
 | ((with_reducible refine Told.mk ?_); simp only [go_sem, reduceIte, reduceCtorEq, xA, xL, xD, xE, xM, xS, xB, opY_x, he, hf, hw, hbs, hsw, hig, bst_0] <;> (first | exact True.intro | (((try simp (disch := omega) only [seaWrap, Int.natCast_add, Int.cast_ofNat_Int, and_true, true_and, and_self]); (repeat' (first | exact True.intro | omega | rfl | (with_reducible assumption) | (with_reducible refine And.intro ?_ ?_) | (exact all_succ (by assumption) (by assumption)) | ((exact rfl)) | ((rw [hbs])) | ((rw [hbs, hf])))); done)) | (refine Stuck.out ?_)))
 | ((fail_if_success (with_reducible show AW _ _ _ _)); simp (maxSteps := 2000000) only [go_sem, reduceIte, reduceCtorEq, xA, xL, xD, xE, xM, xS, xB, Tryz.f21, Tryz.f46, Tryz.f80, Tryz.f47, opY_x, he, hf, hw, hbs, hsw, hig, bst_0])
 | ((fail_if_success (with_reducible show AW _ _ _ _)); simp (disch := omega) only [seaWrap, seaDiv, seaMod])
 | ((with_reducible refine hK _ ?_); clear hK K)
 | (with_reducible apply_assumption -exfalso only [*]))
  all_goals first
    | (unfold coL coE coB; rw [if_pos he, if_pos he, if_pos hc, if_pos hc]; exact ⟨⟨(wrL_len _ _).symm, fun i o _ _ => IV.eqv_refl _⟩, rfl⟩)
    | (unfold coL coE coB; rw [if_pos he, if_pos he, if_neg (by rw [hc]; simp), if_neg (by rw [hc]; simp)]; exact ⟨rfl, rfl⟩)
    | skip
theorem core_p (x : CaS) (hx : x.Ok) : CallsP Tryz.prog 21 [.one (.lst 9 x.n (featF x.f)), .one (.lst 2 x.m (stF x.S)), .one (.lst 1 x.mo (ptF x.O))] (.tup [.one (.lst 1 (coL x).length (intI (zL (coL x)))), .one (.g (.int .i64 (coE x)))]) := by
  by_cases he : cvE x = 0
  · exact core_t x hx he
  · exact core_f x hx he
theorem rep_f (x : CaS) (hx : x.Ok) (he : cvE x ≠ 0) : CallsP Tryz.prog 24 [.one (.lst 9 x.n (featF x.f)), .one (.lst 2 x.m (stF x.S)), .one (.lst 1 x.mo (ptF x.O))] (.tup [.one (.lst 1 (rpL x).length (intI (zL (rpL x)))), .one (.g (.int .i64 (cvE x)))]) := by
  refine CallsP_of Tryz.func24 rfl (by rw [Tryz.ntmps24]; simp) ?_
  simp only [Tryz.ntmps24, zM, PT.tv, argEnv, Nat.zero_add, Nat.reduceAdd]
  repeat' (first
 | ((with_reducible show AW _ _ _ _); first
 | (with_reducible first | refine aS (fun K hK => ?_) | refine aI ?_ | refine aX ?_ | refine aT ?_ | refine aC ?_ | refine aB ?_)
 | (first
 | (with_reducible first | refine aP 0 [0,1,2] ?_ | refine aP 1 [0,1,2] ?_ | refine aP 2 [8,9] ?_ | refine aP 3 [9] ?_ | refine aP 5 [8,10] ?_)))
 | ((first | (with_reducible refine And.intro ?_ ?_) | (with_reducible refine Need.mk ?_)); focus (first | exact True.intro | (with_reducible assumption) | omega | (refine ⟨?_, ?_⟩ <;> omega) | (intro _; first | exact True.intro | (with_reducible assumption) | omega) | (intros; (repeat' (first | exact True.intro | omega | (with_reducible assumption) | (with_reducible refine And.intro ?_ ?_))); done) | (simp (disch := omega) only [Bool.and_eq_true, Bool.or_eq_true, decide_eq_true_eq, bne_iff_ne, ne_eq] at *; first | done | omega | (intros; omega)) | (simp; done) | (simp; omega) | (simp +contextual; done) | (intro h; rw [h]; rfl) | (intro hq; have hq2 := hq; simp only [Bool.and_eq_true, Bool.or_eq_true, Bool.not_eq_true', Bool.not_not, Bool.not_eq_false', decide_eq_true_eq, decide_eq_false_iff_not] at hq2; (repeat' (first | exact hq | (with_reducible refine And.intro ?_ ?_) | omega | (simp_all; done))); done) | (intros; simp_all; done)))
 | (with_reducible refine retK_n ?_)
 | (with_reducible refine retK_n' ?_)
 | (with_reducible refine retH_n rfl rfl rfl ?_)
 | (with_reducible refine retH_n' rfl rfl rfl ?_)
 | ((with_reducible show condN _ _ _ _ _ _); first
 | ((with_reducible refine condN_t ?_ ?_) <;> (intro hc; (try simp only [zB, zC, reduceCtorEq] at hc); ((try (exfalso; omega))); (try (exfalso; first | contradiction | omega)))))
 | ((with_reducible show callN _ _ _ _ _ _ _ _ _ _); first
 | (refine callN_q (k := 37) fnok_37 (opn_f x hx he) ?_ ?_))
 | ((fail_if_success (with_reducible show AW _ _ _ _)); simp (maxSteps := 2000000) only [go_sem, reduceIte, reduceCtorEq, xA, xL, xD, xE, xM, xS, xB, Tryz.f24])
 | ((with_reducible refine hK _ ?_); clear hK K))
  all_goals (first | (exfalso; omega) | (unfold rpL; rw [if_neg he, if_neg he]; exact ⟨rfl, rfl⟩) | (unfold rpL; rw [if_neg he]; first | exact ⟨rfl, rfl⟩ | rfl) | skip)
theorem is_r {x : CaS} {s : Nat} {b : Bool} (h : isR x s = b) : behB (opY x) s = b := h
theorem rep_t (x : CaS) (hx : x.Ok) (he : cvE x = 0) : CallsP Tryz.prog 24 [.one (.lst 9 x.n (featF x.f)), .one (.lst 2 x.m (stF x.S)), .one (.lst 1 x.mo (ptF x.O))] (.tup [.one (.lst 1 (rpL x).length (intI (zL (rpL x)))), .one (.g (.int .i64 (cvE x)))]) := by
  obtain ⟨_, _, _, _, hm, _⟩ := cv_ok he
  have h2p : 0 < 2 ^ x.m := Nat.pow_pos (by decide)
  have mk0 : True := trivial
  have mk1 : True := trivial
  have hf : True := trivial
  have hw : True := trivial
  have hg : True := trivial
  have hbs : True := trivial
  have hsw : True := trivial
  have hig : True := trivial
  refine CallsP_of Tryz.func24 rfl (by rw [Tryz.ntmps24]; simp) ?_
  simp only [Tryz.ntmps24, zM, PT.tv, argEnv, Nat.zero_add, Nat.reduceAdd]
  repeat' (first
 | ((with_reducible show callGN _ _ false _ _ _ _ _ _ _); (with_reducible refine callGN_sq (fun h => by cases h) (fun _ => ?_)))
 | ((with_reducible show callGK _ _ false _ _ _ _); (with_reducible refine callGK_s (fun h => by cases h) (fun _ => ?_)))
 | ((with_reducible show callGK _ _ true (Oper.mk _ (Op.call _) _ _ _ _) _ _ _); (with_reducible refine callGK_s (fun _ => ?_) (fun h => by cases h)))
 | ((with_reducible show callGN _ _ true _ _ _ _ _ _ _); (with_reducible refine callGN_sq (fun _ => ?_) (fun h => by cases h)))
 | ((with_reducible show callGN _ _ _ _ _ _ _ _ _ _); first
 | ((refine callGN_sq ?_ ?_) <;> (intro hc; (try rw [hc]); (try simp only [zB, zC, reduceCtorEq] at hc); (try (exfalso; first | contradiction | omega))))
 | (refine callGN_q (k := 57) fnok_57 (fun hg => worR_p (bst worR (isR x) s).1 s (inS_lt hm hbi) (inS_lt hm hin)) ?_ ?_))
 | ((with_reducible show AW _ _ _ _); first
 | (with_reducible first | refine aS (fun K hK => ?_) | refine aI ?_ | refine aX ?_ | refine aT ?_ | refine aC ?_ | refine aB ?_)
 | (first
 | (with_reducible first | refine aP (ops := #[⟨some 6, _, _, _, _, _⟩, _]) 0 [0,1,2] ?_ | refine aP (ops := #[⟨some 4, _, _, _, _, _⟩, _, _, _]) 0 [0,1,2] ?_ | refine aP (ops := #[⟨some 6, _, _, _, _, _⟩, _, _, _, _, _, _, _, _, _, _, _, _]) 0 [0,1,2,3,4] ?_ | refine aP (ops := #[⟨some 3, _, _, _, _, _⟩]) 0 [0,1] ?_ | refine aP (ops := #[⟨some 13, _, _, _, _, _⟩, _, _, _, _, _, _, _, _, _]) 1 [0,1,2] ?_ | refine aP (ops := #[⟨some 8, _, _, _, _, _⟩]) 1 [0,4,5] ?_ | refine aP (ops := #[⟨some 19, _, _, _, _, _⟩, _, _]) 1 [0,1,3] ?_ | refine aP (ops := #[⟨some 7, _, _, _, _, _⟩, _, _, _, _, _, _, _]) 1 [0,1] ?_ | refine aP (ops := #[⟨some 19, _, _, _, _, _⟩, _]) 2 [8,9] ?_ | refine aP (ops := #[⟨some 9, _, _, _, _, _⟩, _]) 2 [0,4,5,8] ?_ | refine aP (ops := #[⟨some 12, _, _, _, _, _⟩, _]) 2 [5] ?_ | refine aP (ops := #[⟨some 21, _, _, _, _, _⟩, _, _]) 3 [9] ?_ | refine aP (ops := #[⟨some 12, _, _, _, _, _⟩, _]) 3 [0,4,5,8,9] ?_ | refine aP (ops := #[⟨some 23, _, _, _, _, _⟩, _, _, _, _, _, _, _]) 4 [8] ?_ | refine aP (ops := #[⟨some 11, _, _, _, _, _⟩]) 4 [0,8,9,10] ?_ | refine aP (ops := #[⟨some 28, _, _, _, _, _⟩, _, _, _, _]) 5 [8,10] ?_ | refine aP (ops := #[⟨some 13, _, _, _, _, _⟩, _, _, _]) 5 [0,8,9,10,11] ?_ | refine aP 6 [0,8,9,10,11] ?_ | refine aP 7 [0,8,9,10,11] ?_)
 | ((with_reducible refine aR (c := Code.region 8 _ true) [8,9] ?_); (with_reducible refine aD ?_ ?_ ?_ ?_); (focus kernel_rfl); (focus kernel_rfl); (focus kernel_rfl)))
 | ((with_reducible show AW _ (Code.loop _) _ _); first
 | ((with_reducible refine aL (c := (Code.seq (Code.seq (Code.region 5 _ _) _) _)) (ι := Nat) [0,8,9,10] (fun s => [(11, .t (.one (.iv (.g (.int .u64 (s : Int))))))]) (fun s => [(3, [.iv (.g (.int .u64 ((bst worR (isR x) s).1 : Nat)))]), (4, [.iv (.g (.bool (bst worR (isR x) s).2))])]) (fun s => s ≤ 2 ^ x.m) (fun s => 2 ^ x.m - s) 0 ?lg5 ?l15 ?l25 ?li5 ?lr5); (case' lg5 => rintro s _); (case' li5 => try (exact Nat.zero_le _)); (case' lr5 => rintro s hsI KR hR5; simp only [keepE, hupd, hset, lk, if_true, if_false, xE, reduceIte, zN, opY_x, he, hf, hw, hbs, hsw, hig, bst_0]))))
 | ((first | (with_reducible refine And.intro ?_ ?_) | (with_reducible refine Need.mk ?_)); focus (first | exact True.intro | (with_reducible assumption) | omega | (refine ⟨?_, ?_⟩ <;> omega) | (intro _; first | exact True.intro | (with_reducible assumption) | omega) | (intros; (repeat' (first | exact True.intro | omega | (with_reducible assumption) | (with_reducible refine And.intro ?_ ?_))); done) | (simp (disch := omega) only [Bool.and_eq_true, Bool.or_eq_true, decide_eq_true_eq, bne_iff_ne, ne_eq] at *; first | done | omega | (intros; omega)) | (simp; done) | (simp; omega) | (simp +contextual; done) | (intro h; rw [h]; rfl) | (intro hq; have hq2 := hq; simp only [Bool.and_eq_true, Bool.or_eq_true, Bool.not_eq_true', Bool.not_not, Bool.not_eq_false', decide_eq_true_eq, decide_eq_false_iff_not] at hq2; (repeat' (first | exact hq | (with_reducible refine And.intro ?_ ?_) | omega | (simp_all; done))); done) | (intros; simp_all; done)))
 | (with_reducible refine retK_n ?_)
 | (with_reducible refine retK_n' ?_)
 | (with_reducible refine retH_n rfl rfl rfl ?_)
 | (with_reducible refine retH_n' rfl rfl rfl ?_)
 | ((with_reducible show condN _ _ _ _ _ _); first
 | ((with_reducible refine condN_t ?_ ?_) <;> (intro hc; (try simp only [zB, zC, reduceCtorEq] at hc); ((try (exfalso; omega)); (try (clear mk0 hf hw hg hbs hsw hig; have hin : inS x.m s := (by show s < 2 ^ x.m; omega); have hbi := bst_in (w := worR) (g := (isR x)) (m := x.m) (s := s) hsI; have hs1 := inS_lt hm hin; have hsw := u_s1 hs1; rcases bst_cs worR (isR x) s with ⟨hf, hw, hg, hbs⟩ | ⟨hf, hw, hg, hbs⟩ | ⟨hf, hw, hg, hbs⟩ | ⟨hf, hw, hg, hbs⟩ | ⟨hf, hw, hg, hbs⟩; all_goals (first | (have hig := is_r hg) | (have hig := hw)))); (try (clear mk1; have e0 : s = 2 ^ x.m := (by omega); subst e0; have hbi := bst_in (w := worR) (g := (isR x)) (m := x.m) (s := 2 ^ x.m) hsI))); (try (exfalso; first | contradiction | omega)))))
 | ((with_reducible refine And.intro ?_ ?_); focus ((with_reducible show chkR _ _ _ = true); kernel_rfl))
 | ((with_reducible show callN _ _ _ _ _ _ _ _ _ _); first
 | (refine callN_q (k := 37) fnok_37 (opn_t x hx he) ?_ ?_)
 | (refine callN_q (k := 58) fnok_58 (all_p (opY x) (opY_ok hx he)) ?_ ?_)
 | (refine callN_q (k := 48) fnok_48 (beh_p (opY x) (opY_ok hx he) s hin) ?_ ?_)
 | (refine callN_q (k := 57) fnok_57 (worR_p (bst worR (isR x) s).1 s (inS_lt hm hbi) (inS_lt hm hin)) ?_ ?_)
 | (refine callN_q (k := 53) fnok_53 (wri_p (opY x) (opY_ok hx he) (bst worR (isR x) (2 ^ x.m)).1 hbi) ?_ ?_)
 | ((refine callN_i (k := 46) Tryz.func46 rfl fnok_46 (by rw [Tryz.ntmps46]; simp) ?_ ?_ (fun K hK => ?_)); (focus (first | exact True.intro | (with_reducible assumption) | omega | (refine ⟨?_, ?_⟩ <;> omega) | (intro _; first | exact True.intro | (with_reducible assumption) | omega) | (intros; (repeat' (first | exact True.intro | omega | (with_reducible assumption) | (with_reducible refine And.intro ?_ ?_))); done) | (simp (disch := omega) only [Bool.and_eq_true, Bool.or_eq_true, decide_eq_true_eq, bne_iff_ne, ne_eq] at *; first | done | omega | (intros; omega)) | (simp; done) | (simp; omega) | (simp +contextual; done) | (intro h; rw [h]; rfl) | (intro hq; have hq2 := hq; simp only [Bool.and_eq_true, Bool.or_eq_true, Bool.not_eq_true', Bool.not_not, Bool.not_eq_false', decide_eq_true_eq, decide_eq_false_iff_not] at hq2; (repeat' (first | exact hq | (with_reducible refine And.intro ?_ ?_) | omega | (simp_all; done))); done) | (intros; simp_all; done))); (focus (first | (simp [lsF]; done) | assumption | exact ⟨Nat.ne_of_lt (Nat.lt_succ_self _), by assumption⟩)); simp only [Tryz.ntmps46, List.map_cons, List.map_nil, List.nil_append, List.cons_append, List.append_nil, LV.tv, argEnv, Nat.zero_add, Nat.reduceAdd])
 | ((refine callN_ic (k := 80) Tryz.func80 rfl fnok_80 (by rw [Tryz.ntmps80]; simp) ?_ ?_ (fun K hK => ?_)); (focus (first | exact True.intro | (with_reducible assumption) | omega | (refine ⟨?_, ?_⟩ <;> omega) | (intro _; first | exact True.intro | (with_reducible assumption) | omega) | (intros; (repeat' (first | exact True.intro | omega | (with_reducible assumption) | (with_reducible refine And.intro ?_ ?_))); done) | (simp (disch := omega) only [Bool.and_eq_true, Bool.or_eq_true, decide_eq_true_eq, bne_iff_ne, ne_eq] at *; first | done | omega | (intros; omega)) | (simp; done) | (simp; omega) | (simp +contextual; done) | (intro h; rw [h]; rfl) | (intro hq; have hq2 := hq; simp only [Bool.and_eq_true, Bool.or_eq_true, Bool.not_eq_true', Bool.not_not, Bool.not_eq_false', decide_eq_true_eq, decide_eq_false_iff_not] at hq2; (repeat' (first | exact hq | (with_reducible refine And.intro ?_ ?_) | omega | (simp_all; done))); done) | (intros; simp_all; done))); (focus (first | (simp [lsF]; done) | assumption | exact ⟨Nat.ne_of_lt (Nat.lt_succ_self _), by assumption⟩)); simp only [Tryz.ntmps80, List.map_cons, List.map_nil, List.nil_append, List.cons_append, List.append_nil, LV.tv, argEnv, Nat.zero_add, Nat.reduceAdd])
 | ((refine callN_ic (k := 56) Tryz.func56 rfl fnok_56 (by rw [Tryz.ntmps56]; simp) ?_ ?_ (fun K hK => ?_)); (focus (first | exact True.intro | (with_reducible assumption) | omega | (refine ⟨?_, ?_⟩ <;> omega) | (intro _; first | exact True.intro | (with_reducible assumption) | omega) | (intros; (repeat' (first | exact True.intro | omega | (with_reducible assumption) | (with_reducible refine And.intro ?_ ?_))); done) | (simp (disch := omega) only [Bool.and_eq_true, Bool.or_eq_true, decide_eq_true_eq, bne_iff_ne, ne_eq] at *; first | done | omega | (intros; omega)) | (simp; done) | (simp; omega) | (simp +contextual; done) | (intro h; rw [h]; rfl) | (intro hq; have hq2 := hq; simp only [Bool.and_eq_true, Bool.or_eq_true, Bool.not_eq_true', Bool.not_not, Bool.not_eq_false', decide_eq_true_eq, decide_eq_false_iff_not] at hq2; (repeat' (first | exact hq | (with_reducible refine And.intro ?_ ?_) | omega | (simp_all; done))); done) | (intros; simp_all; done))); (focus (first | (simp [lsF]; done) | assumption | exact ⟨Nat.ne_of_lt (Nat.lt_succ_self _), by assumption⟩)); simp only [Tryz.ntmps56, List.map_cons, List.map_nil, List.nil_append, List.cons_append, List.append_nil, LV.tv, argEnv, Nat.zero_add, Nat.reduceAdd]))
 | ((with_reducible show callDN _ _ _ _ _ _ _ _ _ _ _ _ _); first
 | (refine callDN_q (k := 57) fnok_57 (worR_p (bst worR (isR x) s).1 s (inS_lt hm hbi) (inS_lt hm hin)) ?_ ?_))
 | ((with_reducible show callDGN _ _ _ _ _ _ _ _ _ _ _ _ _); first
 | (refine callDGN_q (k := 57) fnok_57 (fun hg => worR_p (bst worR (isR x) s).1 s (inS_lt hm hbi) (inS_lt hm hin)) ?_ ?_))
 | ((with_reducible refine hR5 _ (s + 1) ?_); (try clear hR5 KR))
 | ((with_reducible refine Told.mk ?_); simp only [go_sem, reduceIte, reduceCtorEq, xA, xL, xD, xE, xM, xS, xB, opY_x, he, hf, hw, hbs, hsw, hig, bst_0] <;> (first | exact True.intro | (((try simp (disch := omega) only [seaWrap, Int.natCast_add, Int.cast_ofNat_Int, and_true, true_and, and_self]); (repeat' (first | exact True.intro | omega | rfl | (with_reducible assumption) | (with_reducible refine And.intro ?_ ?_) | (exact all_succ (by assumption) (by assumption)) | ((exact rfl)) | ((rw [hbs])) | ((rw [hbs, hf])))); done)) | (refine Stuck.out ?_)))
 | ((fail_if_success (with_reducible show AW _ _ _ _)); simp (maxSteps := 2000000) only [go_sem, reduceIte, reduceCtorEq, xA, xL, xD, xE, xM, xS, xB, Tryz.f24, Tryz.f46, Tryz.f80, Tryz.f56, opY_x, he, hf, hw, hbs, hsw, hig, bst_0])
 | ((fail_if_success (with_reducible show AW _ _ _ _)); simp (disch := omega) only [seaWrap, seaDiv, seaMod])
 | ((with_reducible refine hK _ ?_); clear hK K)
 | (with_reducible apply_assumption -exfalso only [*]))
  all_goals first
    | (unfold rpL rpB; rw [if_pos he]; exact ⟨(wrL_len _ _).symm, fun i o _ _ => IV.eqv_refl _⟩)
    | skip
theorem rep_p (x : CaS) (hx : x.Ok) : CallsP Tryz.prog 24 [.one (.lst 9 x.n (featF x.f)), .one (.lst 2 x.m (stF x.S)), .one (.lst 1 x.mo (ptF x.O))] (.tup [.one (.lst 1 (rpL x).length (intI (zL (rpL x)))), .one (.g (.int .i64 (cvE x)))]) := by
  by_cases he : cvE x = 0
  · exact rep_t x hx he
  · exact rep_f x hx he
end Go.Proofs.YtmnejmpjmniiiaaGreatDoor
