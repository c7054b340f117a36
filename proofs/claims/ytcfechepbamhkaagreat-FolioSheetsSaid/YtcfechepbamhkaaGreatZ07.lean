/- Part 7 of 17: contracts of functions and plain laws for the root text. No condition. -/
import Derived.Test.YtcfechepbamhkaaGreatZ01
import Derived.Test.YtcfechepbamhkaaGreatZ02
import Derived.Test.YtcfechepbamhkaaGreatZ03
import Derived.Test.YtcfechepbamhkaaGreatZ04
import Derived.Test.YtcfechepbamhkaaGreatZ05
import Derived.Test.YtcfechepbamhkaaGreatZ06
set_option linter.unusedVariables false
set_option linter.unusedSimpArgs false
set_option maxRecDepth 100000
set_option maxHeartbeats 4000000
namespace Go.Proofs.YtcfechepbamhkaaGreat
open Go.RowKit Go.Sea
open Nat renaming reduceAdd -> xA, reduceLT -> xL, reduceLeDiff -> xD, reduceEqDiff -> xE, reduceMul -> xM, reduceSub -> xS, reduceBEq -> xB
theorem ajj : boD Tryz.prog 216 = false := by kernel_rfl
theorem aop : boD Tryz.prog 4 = true := by kernel_rfl
theorem agl : eqD Tryz.prog 216 = some (true, [.int .i64, .int .i64]) := by kernel_rfl
theorem Ub : aN Tryz.prog 233 = true := by kernel_rfl
theorem V4 : aN Tryz.prog 234 = true := by kernel_rfl
theorem tO : aN Tryz.prog 240 = true := by kernel_rfl
theorem HY : aN Tryz.prog 241 = true := by kernel_rfl
theorem ahq : fM Tryz.prog 216 = true := by kernel_rfl
theorem ali : fM Tryz.prog 60 = true := by kernel_rfl
theorem Wz : dF Tryz.prog 216 0 = some 0 := by kernel_rfl
theorem Vh : dF Tryz.prog 216 1 = some 1 := by kernel_rfl
theorem ae3 : dz Tryz.prog 60 0 = some (0, 1) := by kernel_rfl
theorem aaS : dz Tryz.prog 60 1 = some (1, 1) := by kernel_rfl
theorem agI : lQ Tryz.prog 216 = some (true, 2) := by kernel_rfl
theorem agT : fV Tryz.prog 216 = some [.iv (.g (.int .i64 0)), .iv (.g (.int .i64 0))] := by kernel_rfl
attribute [go_sem] ajj aop agl Ub V4 tO HY ahq ali Wz Vh ae3 aaS agI agT
theorem Mt {M x y u v : Int} (h : (-M <= x /\ x <= M) /\ (-M <= y /\ y <= M)) (g : (-M <= u /\ u <= M) /\ (-M <= v /\ v <= M)) : (-(M * M) <= x * v /\ x * v <= M * M) /\ (-(M * M) <= y * u /\ y * u <= M * M) /\ (-(M * M) <= x * u /\ x * u <= M * M) /\ (-(M * M) <= y * v /\ y * v <= M * M) :=
  ⟨nI h.1 g.2, nI h.2 g.1, nI h.1 g.1, nI h.2 g.2⟩
def f2 (a b : Int) (i o : Nat) : IV := .g (.int .i64 (if i = 0 then a else b))
theorem Z8 (x y u v : Int) (h1 : -4000000000000 <= x * v /\ x * v <= 4000000000000) (h2 : -4000000000000 <= y * u /\ y * u <= 4000000000000) : aA Tryz.prog 241 [.agg [.g (.int .i64 (x)), .g (.int .i64 (y))], .agg [.g (.int .i64 (u)), .g (.int .i64 (v))]] (.t (.one (.g (.int .i64 (x * v - y * u))))) := by
  refine ak Tryz.func241 rfl (by rw [Tryz.ntmps241]; simp) ?_
  simp only [Tryz.ntmps241, zM, PT.tv, au, Nat.zero_add, Nat.reduceAdd]
  repeat' (first
 | ((with_reducible show AW _ _ _ _); first
 | (with_reducible first | refine aS (fun K hK => ?_) | refine aT ?_)
 | (first
 | (with_reducible first | refine aP 0 [0,1] ?_ | refine aP 1 [2,3] ?_)))
 | (with_reducible refine aJ ?_)
 | ((fail_if_success (with_reducible show AW _ _ _ _)); simp (maxSteps := 2000000) only [go_sem, reduceIte, reduceCtorEq, xA, xL, xD, xE, xM, xS, xB, Tryz.f241])
 | ((fail_if_success (with_reducible show AW _ _ _ _)); simp (disch := omega) only [aV, ig, iq])
 | ((with_reducible refine hK _ ?_); clear hK K))
theorem EZ (x y : Int) : aA Tryz.prog 240 [.agg [.g (.int .i64 (x)), .g (.int .i64 (y))]] (.t (.one (.g (.bool (decide (0 < y \/ (y = 0 /\ 0 < x))))))) := by
  refine ak Tryz.func240 rfl (by rw [Tryz.ntmps240]; simp) ?_
  simp only [Tryz.ntmps240, zM, PT.tv, au, Nat.zero_add, Nat.reduceAdd]
  repeat' (first
 | ((with_reducible show AW _ _ _ _); first
 | (with_reducible first | refine aS (fun K hK => ?_) | refine aT ?_)
 | (first
 | (with_reducible first | refine aP 0 [0] ?_ | refine aP 1 [1] ?_)))
 | (((with_reducible refine And.intro ?_ ?_)); focus (first | (simp; done) | (simp; omega)))
 | (with_reducible refine aJ ?_)
 | ((fail_if_success (with_reducible show AW _ _ _ _)); simp (maxSteps := 2000000) only [go_sem, reduceIte, reduceCtorEq, xA, xL, xD, xE, xM, xS, xB, Tryz.f240])
 | ((with_reducible refine hK _ ?_); clear hK K))
  all_goals ((try refine Bool.eq_iff_iff.2 ?_); (simp only [Bool.and_eq_true, Bool.or_eq_true, Bool.not_eq_true', decide_eq_true_eq, decide_eq_false_iff_not, bne_iff_ne, beq_iff_eq, ne_eq, ge_iff_le, gt_iff_lt, cond_eq_ite, iff_self, eq_self]; done))
def DY (x y : Int) : Bool := decide (((-1000000 <= x /\ x <= 1000000) /\ (-1000000 <= y /\ y <= 1000000)) /\ ¬ (x = 0 /\ y = 0))
theorem afO (x y : Int) : aA Tryz.prog 225 [.agg [.g (.int .i64 (x)), .g (.int .i64 (y))]] (.t (.one (.g (.bool (DY x y))))) := by
  refine ak Tryz.func225 rfl (by rw [Tryz.ntmps225]; simp) ?_
  simp only [Tryz.ntmps225, zM, PT.tv, au, Nat.zero_add, Nat.reduceAdd]
  repeat' (first
 | ((with_reducible show AW _ _ _ _); first
 | (with_reducible first | refine aS (fun K hK => ?_) | refine aT ?_)
 | (first
 | (with_reducible first | refine aP 0 [0] ?_ | refine aP 1 [1] ?_)))
 | (with_reducible refine aJ ?_)
 | ((fail_if_success (with_reducible show AW _ _ _ _)); simp (maxSteps := 2000000) only [go_sem, reduceIte, reduceCtorEq, xA, xL, xD, xE, xM, xS, xB, Tryz.f225, DY])
 | ((with_reducible refine hK _ ?_); clear hK K))
  all_goals ((refine Bool.eq_iff_iff.2 ?_; simp only [Bool.and_eq_true, Bool.not_eq_true', Bool.and_eq_false_iff, beq_eq_false_iff_ne, decide_eq_true_eq, ne_eq, ge_iff_le]; omega))
def upB (x y : Int) : Bool := decide (0 < y \/ (y = 0 /\ 0 < x))
def sI (x y u v : Int) : Int := if upB x y = upB u v then - Tc (x * v - y * u) else if upB x y = true then -1 else 1
theorem ahA (x y u v : Int) : sI x y u v = -1 \/ sI x y u v = 0 \/ sI x y u v = 1 := by
  unfold sI
  have := afU (x * v - y * u)
  split <;> first | omega | (split <;> omega)
def WZ (fx fy tx ty vx vy : Int) : Bool := if sI fx fy tx ty = -1 then decide (sI fx fy vx vy <= 0) && !decide (sI tx ty vx vy <= 0) else if sI fx fy tx ty = 1 then decide (sI fx fy vx vy <= 0) || !decide (sI tx ty vx vy <= 0) else true
theorem Le (x y u v : Int) (h1 : -4000000000000 <= x * v /\ x * v <= 4000000000000) (h2 : -4000000000000 <= y * u /\ y * u <= 4000000000000) : aA Tryz.prog 226 [.agg [.g (.int .i64 (x)), .g (.int .i64 (y))], .agg [.g (.int .i64 (u)), .g (.int .i64 (v))]] (.t (.one (.g (.int .i64 (sI x y u v))))) := by
  refine ak Tryz.func226 rfl (by rw [Tryz.ntmps226]; simp) ?_
  simp only [Tryz.ntmps226, zM, PT.tv, au, Nat.zero_add, Nat.reduceAdd]
  repeat' (first
 | ((with_reducible show AW _ _ _ _); first
 | (with_reducible first | refine aS (fun K hK => ?_) | refine aI ?_ | refine aT ?_ | refine aC ?_ | refine aB ?_)
 | (first
 | (with_reducible refine aP 0 [0,1] ?_)
 | ((with_reducible refine aR (c := Code.region 1 _ true) [2,3] ?_); (with_reducible refine aD ?_ ?_ ?_ ?_); (focus kernel_rfl); (focus kernel_rfl); (focus kernel_rfl))
 | (with_reducible first | refine aP 2 [2] ?_ | refine aP 3 [] ?_ | refine aP 4 [] ?_ | refine aP 5 [2,3] ?_ | refine aP 6 [] ?_ | refine aP 7 [2,3] ?_ | refine aP 8 [] ?_ | refine aP 9 [] ?_)))
 | ((first | (with_reducible refine And.intro ?_ ?_) | (with_reducible refine Need.mk ?_)); focus (exact True.intro))
 | (with_reducible refine aJ ?_)
 | ((with_reducible show bL _ _ _ _ _ _); first
 | ((with_reducible refine aM ?_ ?_) <;> (intro hc; (try simp only [zB, zC, reduceCtorEq] at hc); (try (exfalso; contradiction)))))
 | ((with_reducible refine And.intro ?_ ?_); focus ((with_reducible show gW _ _ _ = true); kernel_rfl))
 | ((with_reducible show aQ _ _ _ _ _ _ _ _ _ _); first
 | (refine aF (k := 240) tO (EZ x y) ?_ ?_)
 | (refine aF (k := 241) HY (Z8 x y u v h1 h2) ?_ ?_))
 | ((with_reducible show eu _ _ _ _ _ _ _ _ _ _ _ _ _); first
 | (refine cB (k := 240) tO (EZ x y) ?_ ?_)
 | (refine cB (k := 240) tO (EZ u v) ?_ ?_))
 | ((fail_if_success (with_reducible show AW _ _ _ _)); simp (maxSteps := 2000000) only [go_sem, reduceIte, reduceCtorEq, xA, xL, xD, xE, xM, xS, xB, Tryz.f226])
 | ((with_reducible refine hK _ ?_); clear hK K))
  all_goals (first | (unfold sI upB Tc; simp_all; done) | (rw [sI, if_neg (by simp only [upB]; assumption), if_pos (by simp only [upB, decide_eq_true_eq]; assumption)]) | (rw [sI, if_neg (by simp only [upB]; assumption), if_neg (by simp only [upB, decide_eq_true_eq]; assumption)]) | (rw [sI, if_pos (by simp only [upB]; assumption)]; unfold Tc; (repeat' split) <;> omega))
end Go.Proofs.YtcfechepbamhkaaGreat
set_option maxRecDepth 100000
set_option maxHeartbeats 4000000
namespace Go.Proofs.YtcfechepbamhkaaGreat
open Go.RowKit Go.Sea
open Nat renaming reduceAdd -> xA, reduceLT -> xL, reduceLeDiff -> xD, reduceEqDiff -> xE, reduceMul -> xM, reduceSub -> xS, reduceBEq -> xB
theorem akv : Ho Tryz.prog 62 = none := by kernel_rfl
theorem JI : aN Tryz.prog 204 = true := by kernel_rfl
theorem Cu : aN Tryz.prog 205 = true := by kernel_rfl
theorem UG : aN Tryz.prog 213 = true := by kernel_rfl
theorem YP : aN Tryz.prog 214 = true := by kernel_rfl
theorem CU : aN Tryz.prog 225 = true := by kernel_rfl
theorem tV : aN Tryz.prog 226 = true := by kernel_rfl
theorem TR : aN Tryz.prog 232 = true := by kernel_rfl
theorem amc : xH Tryz.prog 62 = some true := by kernel_rfl
theorem Z5 : dF Tryz.prog 174 0 = some 0 := by kernel_rfl
theorem UC : dF Tryz.prog 174 1 = some 2 := by kernel_rfl
theorem WV : dF Tryz.prog 174 2 = some 4 := by kernel_rfl
theorem Vr : dF Tryz.prog 174 3 = some 5 := by kernel_rfl
theorem akh : qX Tryz.prog 62 = some (6, 48, 174) := by kernel_rfl
theorem aho : lQ Tryz.prog 174 = some (true, 6) := by kernel_rfl
theorem agO : fV Tryz.prog 174 = some [.iv (.g (.int .i64 0)), .iv (.g (.int .i64 0)), .iv (.g (.int .i64 0)), .iv (.g (.int .i64 0)), .iv (.g (.int .i64 0)), .iv (.g (.int .i64 0))] := by kernel_rfl
attribute [go_sem] akv JI Cu UG YP CU tV TR amc Z5 UC WV Vr akh aho agO
def Ri (a b c d k r : Int) : Bool := decide (DY a b = true /\ DY c d = true /\ (1 <= k /\ k <= 3) /\ (1 <= r /\ r <= 3000000))
def ahJ (S : Nat -> Nat -> Int) (i : Nat) : Bool := Ri (S i 0) (S i 1) (S i 2) (S i 3) (S i 4) (S i 5)
def RV (S : Nat -> Nat -> Int) (i j : Nat) : Bool := WZ (S i 0) (S i 1) (S i 2) (S i 3) (S j 0) (S j 1)
def Jc (S : Nat -> Nat -> Int) (i : Nat) : Prop := ahJ S i = true /\ ∀ j, j < i -> RV S i j = false /\ RV S j i = false
instance (S : Nat -> Nat -> Int) (i : Nat) : Decidable (Jc S i) := by unfold Jc; infer_instance
def uQ (n : Nat) (S : Nat -> Nat -> Int) : Bool := decide (n <= 12 /\ ∀ i, i < n -> Jc S i)
theorem abj {n : Nat} {S : Nat -> Nat -> Int} {i : Nat} (hi : (i : Int) < n) (h : Ri (S i 0) (S i 1) (S i 2) (S i 3) (S i 4) (S i 5) = false) : false = uQ n S :=
  (decide_eq_false fun g => by have := (g.2 i (by omega)).1; unfold ahJ at this; rw [h] at this; cases this).symm
theorem afo {n : Nat} {S : Nat -> Nat -> Int} {i j : Nat} (hi : (i : Int) < n) (hj : (j : Int) < i) (h : WZ (S i 0) (S i 1) (S i 2) (S i 3) (S j 0) (S j 1) = true) : false = uQ n S :=
  (decide_eq_false fun g => by have := ((g.2 i (by omega)).2 j (by omega)).1; unfold RV at this; rw [h] at this; cases this).symm
theorem acY {n : Nat} {S : Nat -> Nat -> Int} {i j : Nat} (hi : (i : Int) < n) (hj : (j : Int) < i) (h : WZ (S j 0) (S j 1) (S j 2) (S j 3) (S i 0) (S i 1) = true) : false = uQ n S :=
  (decide_eq_false fun g => by have := ((g.2 i (by omega)).2 j (by omega)).2; unfold RV at this; rw [h] at this; cases this).symm
theorem af7 {n i : Nat} {S : Nat -> Nat -> Int} (hi : i <= n) (h : (n : Int) <= i) (g : ∀ i', i' < i -> Jc S i') : decide ((n : Int) <= 12) = uQ n S := by
  unfold uQ; refine decide_eq_decide.2 ⟨fun k => ⟨by omega, fun j hj => g j (by omega)⟩, fun k => by omega⟩
theorem OG {a b c d k r : Int} (h : Ri a b c d k r = true) : DY a b = true := (of_decide_eq_true h).1
theorem af0 {a b c d k r : Int} (h : Ri a b c d k r = true) : DY c d = true := (of_decide_eq_true h).2.1
theorem VJ (x y u v p q z w : Int) (d1 : DY x y = true) (d2 : DY u v = true) (d3 : DY z w = true) : aA Tryz.prog 205 [.agg [.g (.int .i64 (x)), .g (.int .i64 (y)), .g (.int .i64 (u)), .g (.int .i64 (v)), .g (.int .i64 (p)), .g (.int .i64 (q))], .agg [.g (.int .i64 (z)), .g (.int .i64 (w))]] (.t (.one (.g (.bool (WZ x y u v z w))))) := by
  simp only [DY, decide_eq_true_eq] at d1 d2 d3
  have k1 := Mt (M := 1000000) d1.1 d2.1
  have k2 := Mt (M := 1000000) d1.1 d3.1
  have k3 := Mt (M := 1000000) d2.1 d3.1
  have v1 := ahA x y u v
  refine ak Tryz.func205 rfl (by rw [Tryz.ntmps205]; simp) ?_
  simp only [Tryz.ntmps205, zM, PT.tv, au, Nat.zero_add, Nat.reduceAdd]
  repeat' (first
 | ((with_reducible show AW _ _ _ _); first
 | (with_reducible first | refine aS (fun K hK => ?_) | refine aI ?_ | refine aT ?_ | refine aC ?_ | refine aB ?_)
 | (first
 | (with_reducible refine aP 0 [0,1] ?_)
 | ((with_reducible refine aR (c := Code.region 1 _ true) [2,3] ?_); (with_reducible refine aD ?_ ?_ ?_ ?_); (focus kernel_rfl); (focus kernel_rfl); (focus kernel_rfl))
 | ((with_reducible refine aR (c := Code.region 2 _ true) [3,5,6] ?_); (with_reducible refine aD ?_ ?_ ?_ ?_); (focus kernel_rfl); (focus kernel_rfl); (focus kernel_rfl))
 | (with_reducible first | refine aP 3 [5,6,7,8] ?_ | refine aP 4 [7,8,23] ?_ | refine aP 5 [7,8] ?_ | refine aP 6 [7,8,23] ?_ | refine aP 7 [7,8] ?_ | refine aP 8 [] ?_)))
 | ((first | (with_reducible refine And.intro ?_ ?_) | (with_reducible refine Need.mk ?_)); focus (first | exact True.intro | (simp; done)))
 | (with_reducible refine aJ ?_)
 | ((with_reducible show bL _ _ _ _ _ _); first
 | ((with_reducible refine aM ?_ ?_) <;> (intro hc; (try simp only [zB, zC, reduceCtorEq] at hc); (try (exfalso; contradiction)))))
 | ((with_reducible refine And.intro ?_ ?_); focus ((with_reducible show gW _ _ _ = true); kernel_rfl))
 | ((with_reducible show aQ _ _ _ _ _ _ _ _ _ _); (refine aF (k := 226) tV (Le x y u v (by omega) (by omega)) ?_ ?_))
 | ((with_reducible show eu _ _ _ _ _ _ _ _ _ _ _ _ _); first
 | (refine cB (k := 226) tV (Le x y z w (by omega) (by omega)) ?_ ?_)
 | (refine cB (k := 226) tV (Le u v z w (by omega) (by omega)) ?_ ?_))
 | ((fail_if_success (with_reducible show AW _ _ _ _)); simp (maxSteps := 2000000) only [go_sem, reduceIte, reduceCtorEq, xA, xL, xD, xE, xM, xS, xB, Tryz.f205])
 | ((with_reducible refine hK _ ?_); clear hK K))
  all_goals ((unfold WZ; simp_all; done))
theorem amJ (a b c d k r : Int) : aA Tryz.prog 204 [.agg [.g (.int .i64 (a)), .g (.int .i64 (b)), .g (.int .i64 (c)), .g (.int .i64 (d)), .g (.int .i64 (k)), .g (.int .i64 (r))]] (.t (.one (.g (.bool (Ri a b c d k r))))) := by
  refine ak Tryz.func204 rfl (by rw [Tryz.ntmps204]; simp) ?_
  simp only [Tryz.ntmps204, zM, PT.tv, au, Nat.zero_add, Nat.reduceAdd]
  repeat' (first
 | ((with_reducible show AW _ _ _ _); first
 | (with_reducible first | refine aS (fun K hK => ?_) | refine aT ?_)
 | (first
 | (with_reducible first | refine aP 0 [0] ?_ | refine aP 1 [1] ?_)))
 | (((with_reducible refine Need.mk ?_)); focus (first | exact True.intro | (intro _; (with_reducible assumption))))
 | (with_reducible refine aJ ?_)
 | ((with_reducible show aQ _ _ _ _ _ _ _ _ _ _); (refine aF (k := 225) CU (afO a b) ?_ ?_))
 | ((with_reducible show bG _ _ _ _ _ _ _ _ _ _); (refine aO (k := 225) CU (fun hg => afO c d) ?_ ?_))
 | ((fail_if_success (with_reducible show AW _ _ _ _)); simp (maxSteps := 2000000) only [go_sem, reduceIte, reduceCtorEq, xA, xL, xD, xE, xM, xS, xB, Tryz.f204])
 | ((with_reducible refine hK _ ?_); clear hK K))
  all_goals ((unfold Ri; refine Bool.eq_iff_iff.2 ?_; simp only [Bool.and_eq_true, decide_eq_true_eq, ge_iff_le, and_assoc]; done))
theorem aiQ (n : Nat) (S : Nat -> Nat -> Int) (hn : n <= 9223372036854775807) : aA Tryz.prog 171 [.one (.lst 6 n (eO S))] (.t (.one (.g (.bool (uQ n S))))) := by
  refine ak Tryz.func171 rfl (by rw [Tryz.ntmps171]; simp) ?_
  simp only [Tryz.ntmps171, zM, PT.tv, au, Nat.zero_add, Nat.reduceAdd]
  repeat' (first
 | ((with_reducible show AW _ _ _ _); first
 | (with_reducible first | refine aS (fun K hK => ?_) | refine aI ?_ | refine aX ?_ | refine aT ?_ | refine aC ?_ | refine aB ?_)
 | (first
 | (with_reducible first | refine aP 0 [0] ?_ | refine aP 1 [0] ?_ | refine aP 2 [0,7,8,9] ?_ | refine aP 3 [0,7,8,9] ?_ | refine aP 4 [0,3,4,7,8,9] ?_ | refine aP 5 [] ?_ | refine aP 6 [0,3,4,7,8,9] ?_ | refine aP 7 [0,4,7,8,9,19,20,21] ?_ | refine aP 8 [0,4,7,8,9,19,20,21] ?_ | refine aP 9 [0,4,6,7,8,9,19,20,21] ?_ | refine aP 10 [] ?_ | refine aP 11 [0,4,7,8,9,19,20,21] ?_ | refine aP 12 [0,7,8,9] ?_ | refine aP 13 [0] ?_))
 | ((with_reducible show AW _ (Code.loop _) _ _); first
 | ((with_reducible refine aL (c := (Code.seq (Code.region 2 _ _) _)) (ι := Nat) [0,7,8] (fun i => [(9, iA .i64 (i : Int))]) (fun i => []) (fun i => i <= n /\ (∀ i', i' < i -> Jc S i')) (fun i => n - i) 0 ?lg2 ?l12 ?l22 ?li2 ?lr2); (case' lg2 => rintro i _); (case' li2 => try (exact ⟨Nat.zero_le _, fun i hi => absurd hi (Nat.not_lt_zero _)⟩)); (case' lr2 => rintro i ⟨hi, hai⟩ KR hR2; simp only [bI, dI, hset, lk, if_true, if_false, xE, reduceIte, zN]))
 | ((with_reducible refine aL (c := (Code.seq (Code.region 7 _ _) _)) (ι := Nat) [0,4,7,8,9,19,20] (fun j => [(21, iA .i64 (j : Int))]) (fun j => []) (fun j => j <= i /\ ahJ S i = true /\ (∀ j', j' < j -> RV S i j' = false /\ RV S j' i = false)) (fun j => i - j) 0 ?lg7 ?l17 ?l27 ?li7 ?lr7); (case' lg7 => rintro j _); (case' li7 => try (exact ⟨Nat.zero_le _, by assumption, fun i hi => absurd hi (Nat.not_lt_zero _)⟩)); (case' lr7 => rintro j ⟨hj, hsi, haj⟩ KR hR7; simp only [bI, dI, hset, lk, if_true, if_false, xE, reduceIte, zN]))))
 | ((first | (with_reducible refine And.intro ?_ ?_) | (with_reducible refine Need.mk ?_)); focus (first | exact True.intro | omega | (intro _; (with_reducible assumption)) | (simp; done)))
 | (with_reducible refine aJ ?_)
 | ((with_reducible show bL _ _ _ _ _ _); first
 | ((with_reducible refine aM ?_ ?_) <;> (intro hc; (try simp only [zB, zC, reduceCtorEq] at hc); (try (exfalso; contradiction)))))
 | ((with_reducible show aQ _ _ _ _ _ _ _ _ _ _); first
 | (refine aF (k := 204) JI (amJ _ _ _ _ _ _) ?_ ?_)
 | (refine aF (k := 205) Cu (VJ _ _ _ _ _ _ _ _ (OG hsi) (af0 hsi) (OG (hai _ (by omega)).1)) ?_ ?_))
 | ((with_reducible show bG _ _ _ _ _ _ _ _ _ _); (refine aO (k := 205) Cu (fun hg => VJ _ _ _ _ _ _ _ _ (OG (hai _ (by omega)).1) (af0 (hai _ (by omega)).1) (OG hsi)) ?_ ?_))
 | ((with_reducible refine hR2 _ (i + 1) ?_); (try clear hR2 KR))
 | ((with_reducible refine hR7 _ (j + 1) ?_); (try clear hR7 KR))
 | ((with_reducible refine Told.mk ?_); simp only [go_sem, reduceIte, reduceCtorEq, xA, xL, xD, xE, xM, xS, xB, eO] <;> ((((try simp (disch := omega) only [aV, Int.natCast_add, Int.cast_ofNat_Int, and_true, true_and, and_self]); (repeat' (first | omega | (with_reducible refine And.intro ?_ ?_) | (exact all_succ (by assumption) (by assumption)) | ((exact all_succ (by assumption) ⟨by assumption, fun j hj => haj j (by omega)⟩)))); done))))
 | ((fail_if_success (with_reducible show AW _ _ _ _)); simp (maxSteps := 2000000) only [go_sem, reduceIte, reduceCtorEq, xA, xL, xD, xE, xM, xS, xB, Tryz.f171, eO])
 | ((with_reducible refine hK _ ?_); clear hK K)
 | (with_reducible apply_assumption -exfalso only [*]))
  all_goals (first | exact abj (by assumption) (by assumption) | exact Or.elim (by assumption) (afo (by omega) (by omega)) (acY (by omega) (by omega)) | exact af7 (by assumption) (by assumption) (by assumption))
end Go.Proofs.YtcfechepbamhkaaGreat
set_option maxRecDepth 100000
set_option maxHeartbeats 4000000
namespace Go.Proofs.YtcfechepbamhkaaGreat
open Go.RowKit Go.Sea
open Nat renaming reduceAdd -> xA, reduceLT -> xL, reduceLeDiff -> xD, reduceEqDiff -> xE, reduceMul -> xM, reduceSub -> xS, reduceBEq -> xB
theorem aiO : Ho Tryz.prog 209 = none := by kernel_rfl
theorem alk : Ho Tryz.prog 36 = none := by kernel_rfl
theorem Hw : aN Tryz.prog 221 = true := by kernel_rfl
theorem H9 : aN Tryz.prog 222 = true := by kernel_rfl
theorem Zb : aN Tryz.prog 228 = true := by kernel_rfl
theorem YR : aN Tryz.prog 229 = true := by kernel_rfl
theorem XT : aN Tryz.prog 230 = true := by kernel_rfl
theorem Wy : aN Tryz.prog 242 = true := by kernel_rfl
theorem aiL : xH Tryz.prog 209 = some true := by kernel_rfl
theorem akD : xH Tryz.prog 36 = some true := by kernel_rfl
theorem ag0 : qX Tryz.prog 209 = some (2, 16, 60) := by kernel_rfl
theorem ame : qX Tryz.prog 36 = some (1, 8, 3) := by kernel_rfl
theorem aok : fV Tryz.prog 3 = some [.iv (.g (.int .i64 0))] := by kernel_rfl
attribute [go_sem] aiO alk Hw H9 Zb YR XT Wy aiL akD ag0 ame aok
def orV (a b : Int) : Int := if a = 0 then b else a
def Zg (x y u v : Int) : Int := orV (if x < u then -1 else if u < x then 1 else 0) (if y < v then -1 else if v < y then 1 else 0)
theorem X9 (a b : Int) (o : Nat) : f2 a b 0 o = .g (.int .i64 a) := rfl
theorem Yw (a b : Int) (o : Nat) : f2 a b 1 o = .g (.int .i64 b) := rfl
theorem NQ (x y u v : Int) : (Zg x y u v >= 0) ↔ ¬ (x < u \/ (x = u /\ y < v)) := by
  unfold Zg orV
  repeat' split
  all_goals omega
theorem anR (a b : Int) : aA Tryz.prog 221 [.one (.lst 1 2 (f2 a b))] (.t (.one (.g (.int .i64 (orV a b))))) := by
  refine ak Tryz.func221 rfl (by rw [Tryz.ntmps221]; simp) ?_
  simp only [Tryz.ntmps221, zM, PT.tv, au, Nat.zero_add, Nat.reduceAdd]
  repeat' (first
 | ((with_reducible show AW _ _ _ _); first
 | (with_reducible first | refine aS (fun K hK => ?_) | refine aI ?_ | refine aX ?_ | refine aT ?_ | refine aC ?_ | refine aB ?_)
 | (first
 | (with_reducible first | refine aP 0 [0] ?_ | refine aP 1 [0] ?_ | refine aP 2 [0,3] ?_ | refine aP 3 [3,6,7,8] ?_ | refine aP 4 [3,6,7,8] ?_ | refine aP 5 [3,5,6,7,8] ?_ | refine aP 6 [5] ?_ | refine aP 7 [3,6,7,8] ?_ | refine aP 8 [3] ?_))
 | ((with_reducible show AW _ (Code.loop _) _ _); first
 | ((with_reducible refine aL (c := (Code.seq (Code.region 3 _ _) _)) (ι := Nat) [3,6,7] (fun i => [(8, iA .i64 (i : Int))]) (fun i => []) (fun i => i <= 2 /\ (0 < i -> a = 0) /\ (1 < i -> b = 0)) (fun i => 2 - i) 0 ?lg3 ?l13 ?l23 ?li3 ?lr3); (case' lg3 => rintro i _); (case' li3 => try (exact ⟨by omega, by omega, by omega⟩)); (case' lr3 => rintro i ⟨hi, hx1, hx2⟩ KR hR3; (rcases (by omega : i = 0 \/ i = 1 \/ i = 2) with hz | hz | hz <;> subst hz); simp only [bI, dI, hset, lk, if_true, if_false, xE, reduceIte, zN, X9, Yw]))))
 | (((with_reducible refine And.intro ?_ ?_)); focus (omega))
 | (with_reducible refine aJ ?_)
 | ((with_reducible show bL _ _ _ _ _ _); first
 | ((with_reducible refine aM ?_ ?_) <;> (intro hc; (try simp only [zB, zC, reduceCtorEq] at hc); (try (exfalso; contradiction)))))
 | ((with_reducible refine hR3 _ 1 ?_); (try clear hR3 KR); (with_reducible refine Told.mk ?_); simp only [go_sem, reduceIte, reduceCtorEq, xA, xL, xD, xE, xM, xS, xB, X9, Yw]; ((try simp (disch := omega) only [aV, Int.natCast_add, Int.cast_ofNat_Int, and_true, true_and, and_self]); (repeat' (omega )); done))
 | ((with_reducible refine hR3 _ 2 ?_); (try clear hR3 KR); (with_reducible refine Told.mk ?_); simp only [go_sem, reduceIte, reduceCtorEq, xA, xL, xD, xE, xM, xS, xB, X9, Yw]; (((try simp (disch := omega) only [aV, Int.natCast_add, Int.cast_ofNat_Int, and_true, true_and, and_self]); (repeat' (omega )); done)))
 | ((with_reducible refine Told.mk ?_); simp only [go_sem, reduceIte, reduceCtorEq, xA, xL, xD, xE, xM, xS, xB, X9, Yw] <;> ((((try simp (disch := omega) only [aV, Int.natCast_add, Int.cast_ofNat_Int, and_true, true_and, and_self]); (repeat' (exact True.intro )); done))))
 | ((fail_if_success (with_reducible show AW _ _ _ _)); simp (maxSteps := 2000000) only [go_sem, reduceIte, reduceCtorEq, xA, xL, xD, xE, xM, xS, xB, Tryz.f221, X9, Yw])
 | ((with_reducible refine hK _ ?_); clear hK K)
 | (with_reducible apply_assumption -exfalso only [*]))
  all_goals ((unfold orV; first | (rw [if_pos (by omega)]; omega) | (rw [if_neg (by omega)]) | (split <;> omega)))
theorem aon (a b : Int) {F : Nat -> Nat -> IV} (hF : ∀ i o, i < 2 -> o < 1 -> (F i o).eqv (f2 a b i o)) : aA Tryz.prog 221 [.one (.lst 1 2 F)] (.t (.one (.g (.int .i64 (orV a b))))) :=
  (anR a b).eqv ⟨⟨rfl, rfl, hF⟩, trivial⟩ (PV.bf _)
theorem afb (x y u v : Int) : aA Tryz.prog 199 [.agg [.g (.int .i64 (x)), .g (.int .i64 (y))], .agg [.g (.int .i64 (u)), .g (.int .i64 (v))]] (.t (.one (.g (.int .i64 (Zg x y u v))))) := by
  refine ak Tryz.func199 rfl (by rw [Tryz.ntmps199]; simp) ?_
  simp only [Tryz.ntmps199, zM, PT.tv, au, Nat.zero_add, Nat.reduceAdd]
  repeat' (first
 | ((with_reducible show eu _ _ _ _ _ _ _ _ _ _ _ _ _); first
 | ((refine cB (k := 221) Hw (aon (if x < u then -1 else if u < x then 1 else 0) (if y < v then -1 else if v < y then 1 else 0) ?_) ?_ ?_); (focus (intro i o hi ho; rcases i with _ | _ | i <;> first | omega | (rcases o with _ | o <;> first | omega | exact IV.bf _))))
 | (refine cB (k := 166) um (Lf x u) ?_ ?_)
 | (refine cB (k := 166) um (Lf y v) ?_ ?_))
 | ((with_reducible show AW _ _ _ _); first
 | (with_reducible first | refine aS (fun K hK => ?_) | refine aT ?_)
 | (first
 | (with_reducible refine aP 0 [0,1] ?_)
 | ((with_reducible refine aR (c := Code.region 1 _ true) [2,3] ?_); (with_reducible refine aD ?_ ?_ ?_ ?_); (focus kernel_rfl); (focus kernel_rfl); (focus kernel_rfl))))
 | ((first | (with_reducible refine And.intro ?_ ?_) | (with_reducible refine Need.mk ?_)); focus (exact True.intro))
 | (with_reducible refine aJ ?_)
 | ((with_reducible refine And.intro ?_ ?_); focus ((with_reducible show gW _ _ _ = true); kernel_rfl))
 | ((fail_if_success (with_reducible show AW _ _ _ _)); simp (maxSteps := 2000000) only [go_sem, reduceIte, reduceCtorEq, xA, xL, xD, xE, xM, xS, xB, Tryz.f199])
 | ((with_reducible refine hK _ ?_); clear hK K))
  all_goals (rfl)
theorem aeu (ax ay bx by' cx cy : Int) : aA Tryz.prog 200 [.agg [.g (.int .i64 (ax)), .g (.int .i64 (ay))], .agg [.g (.int .i64 (bx)), .g (.int .i64 (by'))], .agg [.g (.int .i64 (cx)), .g (.int .i64 (cy))]] (.t (.one (.g (.int .i64 (tvV ax ay bx by' cx cy))))) := by
  refine ak Tryz.func200 rfl (by rw [Tryz.ntmps200]; simp) ?_
  simp only [Tryz.ntmps200, zM, PT.tv, au, Nat.zero_add, Nat.reduceAdd]
  repeat' (first
 | ((with_reducible show AW _ _ _ _); first
 | (with_reducible first | refine aS (fun K hK => ?_) | refine aT ?_)
 | (first
 | (with_reducible first | refine aP 0 [0,1,2] ?_ | refine aP 1 [3,4,5] ?_ | refine aP 2 [7] ?_)))
 | (((with_reducible refine Need.mk ?_)); focus (exact True.intro))
 | (with_reducible refine aJ ?_)
 | ((with_reducible show aQ _ _ _ _ _ _ _ _ _ _); first
 | (refine aF (k := 222) H9 (aha _ _ _ _ _ _) ?_ ?_))
 | ((fail_if_success (with_reducible show AW _ _ _ _)); simp (maxSteps := 2000000) only [go_sem, reduceIte, reduceCtorEq, xA, xL, xD, xE, xM, xS, xB, Tryz.f200])
 | ((with_reducible refine hK _ ?_); clear hK K))
def D6 (n : Nat) (i : Int) : Nat := ((i + n) % n).toNat
theorem Cy (n : Nat) (P : Nat -> Nat -> Int) (i : Int) (hn : 0 < n /\ n <= 1000) (hi : -1 <= i /\ i <= 1000) : aA Tryz.prog 201 [.one (.lst 2 n (eO P)), .one (.g (.int .i64 (i)))] (.t (.agg [.g (.int .i64 (P (D6 n i) 0)), .g (.int .i64 (P (D6 n i) 1))])) := by
  have hm : 0 <= (i + (n : Int)) % (n : Int) /\ (i + (n : Int)) % (n : Int) < (n : Int) := ⟨Int.emod_nonneg _ (by omega), Int.emod_lt_of_pos _ (by omega)⟩
  refine ak Tryz.func201 rfl (by rw [Tryz.ntmps201]; simp) ?_
  simp only [Tryz.ntmps201, zM, PT.tv, au, Nat.zero_add, Nat.reduceAdd]
  repeat' (first
 | ((with_reducible show AW _ _ _ _); first
 | (with_reducible first | refine aS (fun K hK => ?_) | refine aT ?_)
 | (first
 | (with_reducible first | refine aP 0 [0,1] ?_ | refine aP 1 [0,1,4] ?_)))
 | (((with_reducible refine And.intro ?_ ?_)); focus (first | (with_reducible assumption) | omega))
 | (with_reducible refine aJ ?_)
 | ((fail_if_success (with_reducible show AW _ _ _ _)); simp (maxSteps := 2000000) only [go_sem, reduceIte, reduceCtorEq, xA, xL, xD, xE, xM, xS, xB, Tryz.f201, eO])
 | ((fail_if_success (with_reducible show AW _ _ _ _)); simp (disch := omega) only [aV, ig, iq])
 | ((with_reducible refine hK _ ?_); clear hK K))
  all_goals (exact ⟨rfl, rfl⟩)
end Go.Proofs.YtcfechepbamhkaaGreat
namespace Go.Proofs.YtcfechepbamhkaaGreat
open Go.RowKit Go.Sea
open Nat renaming reduceAdd -> xA, reduceLT -> xL, reduceLeDiff -> xD, reduceEqDiff -> xE, reduceMul -> xM, reduceSub -> xS, reduceBEq -> xB
theorem aiW : Ho Tryz.prog 236 = some (2, 2) := by kernel_rfl
theorem vg : aN Tryz.prog 201 = true := by kernel_rfl
theorem Ck : aN Tryz.prog 223 = true := by kernel_rfl
theorem IL : aN Tryz.prog 238 = true := by kernel_rfl
theorem agW : fM Tryz.prog 236 = true := by kernel_rfl
theorem Vu : dz Tryz.prog 236 0 = some (0, 2) := by kernel_rfl
theorem Vt : dz Tryz.prog 236 1 = some (2, 2) := by kernel_rfl
theorem agk : qX Tryz.prog 236 = none := by kernel_rfl
theorem ajY : lQ Tryz.prog 209 = some (false, 1) := by kernel_rfl
theorem aiz : lQ Tryz.prog 236 = some (true, 4) := by kernel_rfl
theorem agJ : fV Tryz.prog 236 = some [.iv (.g (.int .i64 0)), .iv (.g (.int .i64 0)), .iv (.g (.int .i64 0)), .iv (.g (.int .i64 0))] := by kernel_rfl
attribute [go_sem] aiW vg Ck agW Vu Vt agk ajY aiz agJ
def nx (n i : Nat) : Nat := D6 n ((i : Int) + 1)
theorem Iy {n i : Nat} (h : 0 < n) : nx n i < n := by
  unfold nx D6
  have h1 := Int.emod_nonneg ((i : Int) + 1 + n) (show (n : Int) ≠ 0 by omega)
  have h2 := Int.emod_lt_of_pos ((i : Int) + 1 + n) (show (0 : Int) < n by omega)
  omega
def twT (P : Nat -> Nat -> Int) (n i : Nat) : Int := P i 0 * P (nx n i) 1 - P i 1 * P (nx n i) 0
def Wv (P : Nat -> Nat -> Int) (n : Nat) : Nat -> Int
  | 0 => 0
  | i + 1 => Wv P n i + twT P n i
theorem Et (P : Nat -> Nat -> Int) (n i : Nat) : Wv P n (i + 1) = Wv P n i + (P i 0 * P (nx n i) 1 - P i 1 * P (nx n i) 0) := rfl
theorem T9 {P : Nat -> Nat -> Int} {n i j : Nat} (h : qx P n) (hi : i < n) (hj : j < n) : (-1000000000000 <= P i 0 * P j 1 /\ P i 0 * P j 1 <= 1000000000000) /\ (-1000000000000 <= P i 1 * P j 0 /\ P i 1 * P j 0 <= 1000000000000) := by
  have a := Jo.1 (h i hi)
  have b := Jo.1 (h j hj)
  have h1 := nI (M := 1000000) a.1 b.2
  have h2 := nI (M := 1000000) a.2 b.1
  omega
theorem WU {P : Nat -> Nat -> Int} {n : Nat} (h : qx P n) : ∀ i, i <= n -> -(2000000000000 * (i : Int)) <= Wv P n i /\ Wv P n i <= 2000000000000 * (i : Int)
  | 0, _ => by simp [Wv]
  | i + 1, hi => by
    have := WU h i (by omega)
    have t := T9 h (show i < n by omega) (Iy (n := n) (i := i) (by omega))
    rw [Et]; omega
set_option maxRecDepth 100000 in
set_option maxHeartbeats 4000000 in
theorem adQ (n : Nat) (P : Nat -> Nat -> Int) (hn : 0 < n /\ n <= 1000) (hp : qx P n) : aA Tryz.prog 203 [.one (.lst 2 n (eO P))] (.t (.one (.g (.int .i64 (Wv P n n))))) := by
  have hz : True := trivial
  refine ak Tryz.func203 rfl (by rw [Tryz.ntmps203]; simp) ?_
  simp only [Tryz.ntmps203, zM, PT.tv, au, Nat.zero_add, Nat.reduceAdd]
  repeat' (first
 | ((with_reducible show AW _ _ _ _); first
 | (with_reducible first | refine aS (fun K hK => ?_) | refine aI ?_ | refine aX ?_ | refine aT ?_ | refine aC ?_ | refine aB ?_)
 | ((refine eT (k := 238) rfl Tryz.func238 rfl IL (by rw [Tryz.ntmps238]; simp) ?_ ?_ (fun l hlne A B hA hB => ?_)); (focus (simp (maxSteps := 2000000) only [go_sem, reduceIte, reduceCtorEq, xA, xL, xD, xE, xM, xS, xB, Tryz.f203, Tryz.f238, Tryz.f223, eO, Et, nx, hz, Int.toNat_one, Int.reduceToNat]; try exact True.intro)); (focus (simp (maxSteps := 2000000) only [go_sem, reduceIte, reduceCtorEq, xA, xL, xD, xE, xM, xS, xB, Tryz.f203, Tryz.f238, Tryz.f223, eO, Et, nx, hz, Int.toNat_one, Int.reduceToNat]; try exact True.intro)); simp only [Tryz.ntmps238, List.map_cons, List.map_nil, LV.tv, au, yV, Nat.zero_add, Nat.reduceAdd]; clear hlne)
 | (with_reducible refine u7 (by assumption) ?_)
 | (first
 | (with_reducible first | refine aP (ops := #[⟨some 2, _, _, _, _, _⟩]) 0 [0,9] ?_ | refine aP (ops := #[⟨some 5, _, _, _, _, _⟩, _, _]) 0 [0,1] ?_ | refine aP (ops := #[⟨some 1, _, _, _, _, _⟩, _]) 0 [0] ?_ | refine aP 1 [0,1,5,6,7,9] ?_ | refine aP (ops := #[⟨some 6, _, _, _, _, _⟩, _]) 2 [0,3,9] ?_ | refine aP (ops := #[⟨some 9, _, _, _, _, _⟩, _, _, _, _, _]) 2 [0,1,5,6,7] ?_ | refine aP 3 [3,9] ?_)
 | ((with_reducible refine aR (c := Code.region 3 _ true) [0,1,3,4,5,6,7] ?_); (with_reducible refine mH 8 ?_ ?_ ?_ ?_ ?_); (focus kernel_rfl); (focus kernel_rfl); (focus kernel_rfl); (focus kernel_rfl))
 | (with_reducible first | refine aP (ops := #[⟨some 10, _, _, _, _, _⟩, _, _, _, _, _, _, _, _, _, _, _, _, _, _, _, _, _]) 4 [3,5,9] ?_ | refine aP (ops := #[⟨some 22, _, _, _, _, _⟩, _]) 4 [0,1,5,6,7] ?_ | refine aP 5 [3] ?_))
 | ((with_reducible show AW _ (Code.loop _) _ _); first
 | ((with_reducible refine aL (c := (Code.seq (Code.region 1 _ _) _)) (ι := Nat) [0,1,5,6] (fun i => [(7, iA .i64 (i : Int))]) (fun i => [(0, [.iv (.g (.int .i64 (Wv P n i)))])]) (fun i => i <= n) (fun i => n - i) 0 ?lg1 ?l11 ?l21 ?li1 ?lr1); (case' lg1 => rintro i _); (case' li1 => try exact Nat.zero_le _); (case' lr1 => rintro i hi KR hR1; (have hb := WU hp i (by omega); have ht : i < n -> _ := fun hi' => T9 hp hi' (Iy (n := n) (i := i) (by omega)); simp only [nx] at ht; have ht2 := ht); simp only [bI, dI, hset, lk, if_true, if_false, xE, reduceIte, zN, Et, nx, hz, Int.toNat_one, Int.reduceToNat]))))
 | ((first | (with_reducible refine And.intro ?_ ?_) | (with_reducible refine Need.mk ?_)); focus (first | exact True.intro | omega | (simp (disch := omega) only [Bool.and_eq_true, Bool.or_eq_true, decide_eq_true_eq, bne_iff_ne, ne_eq] at *; omega)))
 | (with_reducible refine aJ ?_)
 | ((with_reducible show bL _ _ _ _ _ _); first
 | ((with_reducible refine aM ?_ ?_) <;> (intro hc; (try simp only [zB, zC, reduceCtorEq] at hc); (try (exfalso; contradiction)))))
 | ((with_reducible show ∀ _ : AS -> Prop, _ -> _); intro K hK)
 | ((with_reducible refine And.intro ?_ ?_); focus (((with_reducible show yZ _ _ _ _ = true); kernel_rfl)))
 | ((with_reducible show aQ _ _ _ _ _ _ _ _ _ _); ((refine dA (k := 223) Tryz.func223 rfl Ck (by rw [Tryz.ntmps223]; simp) ?_ ?_ (fun K hK => ?_)); (focus (exact True.intro)); (focus ((simp [jF]; done))); simp only [Tryz.ntmps223, List.map_cons, List.map_nil, List.nil_append, List.cons_append, List.append_nil, LV.tv, au, Nat.zero_add, Nat.reduceAdd]))
 | ((with_reducible show eu _ _ _ _ _ _ _ _ _ _ _ _ _); first
 | (refine cB (k := 201) vg (Cy n P _ hn (by omega)) ?_ ?_))
 | ((with_reducible refine hR1 _ (i + 1) ?_); (try clear hR1 KR))
 | ((with_reducible refine Told.mk ?_); simp only [go_sem, reduceIte, reduceCtorEq, xA, xL, xD, xE, xM, xS, xB, eO, Et, nx, hz, Int.toNat_one, Int.reduceToNat] <;> ((((try simp (disch := omega) only [aV, Int.natCast_add, Int.cast_ofNat_Int, and_true, true_and, and_self]); (repeat' (first | omega | rfl)); done))))
 | ((fail_if_success (with_reducible show AW _ _ _ _)); simp (maxSteps := 2000000) only [go_sem, reduceIte, reduceCtorEq, xA, xL, xD, xE, xM, xS, xB, Tryz.f203, Tryz.f238, Tryz.f223, eO, Et, nx, hz, Int.toNat_one, Int.reduceToNat])
 | ((fail_if_success (with_reducible show AW _ _ _ _)); simp (disch := omega) only [aV, ig, iq])
 | ((with_reducible show aQ _ _ _ _ _ _ (.yld _) _ _ _); (refine lS (by simp only [EG, if_true]; exact rfl) ?_ (by simp) ?_ ?_ (fun K hK => ?_)); (focus (exact True.intro)); (focus (simp [ng])); (focus ((simp [jF]; done))); simp only [jm, gf, if_true, Nat.reduceAdd])
 | ((with_reducible refine hK _ ?_); clear hK K)
 | (with_reducible apply_assumption -exfalso only [*]))
  all_goals (((obtain rfl : i = n := by omega); rfl))
end Go.Proofs.YtcfechepbamhkaaGreat
namespace Go.Proofs.YtcfechepbamhkaaGreat
open Go.RowKit Go.Sea
open Nat renaming reduceAdd -> xA, reduceLT -> xL, reduceLeDiff -> xD, reduceEqDiff -> xE, reduceMul -> xM, reduceSub -> xS, reduceBEq -> xB
theorem JD : aN Tryz.prog 224 = true := by kernel_rfl
theorem anD : lQ Tryz.prog 4 = some (false, 1) := by kernel_rfl
theorem an8 : fV Tryz.prog 4 = some [.iv (.g (.bool false))] := by kernel_rfl
attribute [go_sem] JD anD an8
def smP (P : Nat -> Nat -> Int) (n i k : Nat) : Prop := ((k : Int) <= (i : Int) + 1 \/ ((i : Int) = 0 /\ (k : Int) = (n : Int) - 1)) \/ mvB (P i 0) (P i 1) (P (nx n i) 0) (P (nx n i) 1) (P k 0) (P k 1) (P (nx n k) 0) (P (nx n k) 1) = false
instance (P : Nat -> Nat -> Int) (n i k : Nat) : Decidable (smP P n i k) := by unfold smP; infer_instance
def Sl (P : Nat -> Nat -> Int) (n : Nat) : Bool := decide (∀ i, i < n -> ∀ k, k < n -> smP P n i k)
theorem ahF {P : Nat -> Nat -> Int} {n i k : Nat} (h2 : mvB (P i 0) (P i 1) (P (D6 n ((i : Int) + 1)) 0) (P (D6 n ((i : Int) + 1)) 1) (P k 0) (P k 1) (P (D6 n ((k : Int) + 1)) 0) (P (D6 n ((k : Int) + 1)) 1) = true) (h1 : (i : Int) + 1 < k /\ ((i : Int) ≠ 0 \/ (k : Int) ≠ (n : Int) - 1)) (hi : (i : Int) < n) (hk : (k : Int) < n) : false = Sl P n := by
  refine (decide_eq_false fun g => ?_).symm
  have t := g i (by omega) k (by omega)
  unfold smP nx at t
  rw [h2] at t
  rcases t with t | t
  · omega
  · cases t
theorem aiN {P : Nat -> Nat -> Int} {n i : Nat} (h : (n : Int) <= i) (g : ∀ i', i' < i -> ∀ k', k' < n -> smP P n i' k') : true = Sl P n := (decide_eq_true fun j hj k hk => g j (by omega) k hk).symm
set_option maxRecDepth 100000 in
set_option maxHeartbeats 4000000 in
theorem ZH (n : Nat) (P : Nat -> Nat -> Int) (hn : 0 < n /\ n <= 1000) : aA Tryz.prog 202 [.one (.lst 2 n (eO P))] (.t (.one (.g (.bool (Sl P n))))) := by
  have hz : True := trivial
  refine ak Tryz.func202 rfl (by rw [Tryz.ntmps202]; simp) ?_
  simp only [Tryz.ntmps202, zM, PT.tv, au, Nat.zero_add, Nat.reduceAdd]
  repeat' (first
 | ((with_reducible show AW _ _ _ _); first
 | (with_reducible first | refine aS (fun K hK => ?_) | refine aI ?_ | refine aX ?_ | refine aT ?_ | refine aC ?_ | refine aB ?_)
 | ((refine eT (k := 238) rfl Tryz.func238 rfl IL (by rw [Tryz.ntmps238]; simp) ?_ ?_ (fun l hlne A B hA hB => ?_)); (focus (simp (maxSteps := 2000000) only [go_sem, reduceIte, reduceCtorEq, xA, xL, xD, xE, xM, xS, xB, Tryz.f202, Tryz.f238, Tryz.f223, eO, nx, hz, Int.toNat_one, Int.reduceToNat]; try exact True.intro)); (focus (simp (maxSteps := 2000000) only [go_sem, reduceIte, reduceCtorEq, xA, xL, xD, xE, xM, xS, xB, Tryz.f202, Tryz.f238, Tryz.f223, eO, nx, hz, Int.toNat_one, Int.reduceToNat]; try exact True.intro)); simp only [Tryz.ntmps238, List.map_cons, List.map_nil, LV.tv, au, yV, Nat.zero_add, Nat.reduceAdd]; clear hlne)
 | (with_reducible refine u7 (by assumption) ?_)
 | (first
 | (with_reducible first | refine aP 0 [0,1,14,15,18,19] ?_ | refine aP (ops := #[⟨some 10, _, _, _, _, _⟩, _, _, _]) 1 [1,2,14,15,18,19] ?_ | refine aP (ops := #[⟨some 8, _, _, _, _, _⟩]) 1 [0,1,5,6,7] ?_ | refine aP (ops := #[⟨some 3, _, _, _, _, _⟩, _]) 1 [1] ?_ | refine aP (ops := #[⟨some 12, _, _, _, _, _⟩, _]) 2 [1,2,3,14,15,18,19] ?_ | refine aP (ops := #[⟨some 9, _, _, _, _, _⟩, _, _, _, _, _]) 2 [0,1,5,6,7] ?_ | refine aP 3 [1,2,3,14,15,18,19] ?_)
 | ((with_reducible refine aR (c := Code.region 3 _ true) [0,1,3,4,5,6,7] ?_); (with_reducible refine mH 8 ?_ ?_ ?_ ?_ ?_); (focus kernel_rfl); (focus kernel_rfl); (focus kernel_rfl); (focus kernel_rfl))
 | (with_reducible first | refine aP (ops := #[⟨some 5, _, _, _, _, _⟩, _]) 4 [1,2,3,4,14,15,18,19] ?_ | refine aP (ops := #[⟨some 22, _, _, _, _, _⟩, _]) 4 [0,1,5,6,7] ?_ | refine aP 5 [1,2,3,4,5,14,15,18,19] ?_ | refine aP 6 [1,2,3,4,5,14,15,18,19] ?_ | refine aP 7 [1,2,3,4,5,6,14,15,18,19] ?_ | refine aP 8 [1,2,3,4,5,6,7,14,15,18,19] ?_ | refine aP 9 [1,2,3,4,5,7,14,15,18,19] ?_ | refine aP 10 [1,2,3,4,5,8,14,15,18,19] ?_ | refine aP 11 [2] ?_ | refine aP 12 [2] ?_))
 | ((with_reducible show AW _ (Code.loop _) _ _); first
 | ((have hO := hai; with_reducible refine aL (c := (Code.seq (Code.region 1 _ _) _)) (ι := Nat) [0,1,5,6] (fun k => [(7, iA .i64 (k : Int))]) (fun k => []) (fun k => k <= n /\ (∀ k', k' < k -> smP P n i k')) (fun k => n - k) 0 ?lg1b ?l11b ?l21b ?li1b ?lr1b); (case' lg1b => rintro k _); (case' li1b => try (exact ⟨Nat.zero_le _, fun i hi => absurd hi (Nat.not_lt_zero _)⟩)); (case' lr1b => rintro k ⟨hk, hak⟩ KR hR1b; simp only [bI, dI, hset, lk, if_true, if_false, xE, reduceIte, zN, nx, hz, Int.toNat_one, Int.reduceToNat]))
 | ((with_reducible refine aL (c := (Code.seq (Code.region 1 _ _) _)) (ι := Nat) [0,1,5,6] (fun i => [(7, iA .i64 (i : Int))]) (fun i => []) (fun i => i <= n /\ (∀ i', i' < i -> ∀ k', k' < n -> smP P n i' k')) (fun i => n - i) 0 ?lg1a ?l11a ?l21a ?li1a ?lr1a); (case' lg1a => rintro i _); (case' li1a => try (exact ⟨Nat.zero_le _, fun i hi => absurd hi (Nat.not_lt_zero _)⟩)); (case' lr1a => rintro i ⟨hi, hai⟩ KR hR1a; simp only [bI, dI, hset, lk, if_true, if_false, xE, reduceIte, zN, nx, hz, Int.toNat_one, Int.reduceToNat]))))
 | ((first | (with_reducible refine And.intro ?_ ?_) | (with_reducible refine Need.mk ?_)); focus (first | exact True.intro | omega | (simp (disch := omega) only [Bool.and_eq_true, Bool.or_eq_true, decide_eq_true_eq, bne_iff_ne, ne_eq] at *; omega) | (simp; done) | (simp; omega)))
 | (with_reducible refine aJ ?_)
 | ((with_reducible show bL _ _ _ _ _ _); first
 | ((with_reducible refine aM ?_ ?_) <;> (intro hc; (try simp only [zB, zC, reduceCtorEq] at hc); (try (exfalso; contradiction)))))
 | ((with_reducible show ∀ _ : AS -> Prop, _ -> _); intro K hK)
 | ((with_reducible refine And.intro ?_ ?_); focus (((with_reducible show yZ _ _ _ _ = true); kernel_rfl)))
 | ((with_reducible show aQ _ _ _ _ _ _ _ _ _ _); first
 | (refine aF (k := 224) JD (ajg _ _ _ _ _ _ _ _) ?_ ?_)
 | ((refine dA (k := 223) Tryz.func223 rfl Ck (by rw [Tryz.ntmps223]; simp) ?_ ?_ (fun K hK => ?_)); (focus (exact True.intro)); (focus ((simp [jF]; done))); simp only [Tryz.ntmps223, List.map_cons, List.map_nil, List.nil_append, List.cons_append, List.append_nil, LV.tv, au, Nat.zero_add, Nat.reduceAdd]))
 | ((with_reducible show eu _ _ _ _ _ _ _ _ _ _ _ _ _); first
 | (refine cB (k := 201) vg (Cy n P _ hn (by omega)) ?_ ?_))
 | ((with_reducible refine hR1b _ (k + 1) ?_); (try clear hR1b KR))
 | ((with_reducible refine hR1a _ (i + 1) ?_); (try clear hR1a KR))
 | ((with_reducible refine Told.mk ?_); simp only [go_sem, reduceIte, reduceCtorEq, xA, xL, xD, xE, xM, xS, xB, eO, nx, hz, Int.toNat_one, Int.reduceToNat] <;> (first | (((try simp (disch := omega) only [aV, Int.natCast_add, Int.cast_ofNat_Int, and_true, true_and, and_self]); (repeat' (first | omega | (with_reducible refine And.intro ?_ ?_) | ((exact all_succ (by assumption) (Or.inl (by omega)))) | ((exact all_succ (by assumption) (Or.inr (by assumption)))))); done)) | (((try simp (disch := omega) only [aV, Int.natCast_add, Int.cast_ofNat_Int, and_true, true_and, and_self]); (repeat' (first | omega | (with_reducible refine And.intro ?_ ?_) | ((exact all_succ (by assumption) (fun k' hk' => hak k' (by omega)))))); done))))
 | ((fail_if_success (with_reducible show AW _ _ _ _)); simp (maxSteps := 2000000) only [go_sem, reduceIte, reduceCtorEq, xA, xL, xD, xE, xM, xS, xB, Tryz.f202, Tryz.f238, Tryz.f223, eO, nx, hz, Int.toNat_one, Int.reduceToNat])
 | ((fail_if_success (with_reducible show AW _ _ _ _)); simp (disch := omega) only [aV, ig, iq])
 | ((with_reducible show aQ _ _ _ _ _ _ (.yld _) _ _ _); (refine lS (by simp only [EG, if_true]; exact rfl) ?_ (by simp) ?_ ?_ (fun K hK => ?_)); (focus (exact True.intro)); (focus (simp [ng])); (focus ((simp [jF]; done))); simp only [jm, gf, if_true, Nat.reduceAdd])
 | ((with_reducible refine hK _ ?_); clear hK K)
 | (with_reducible apply_assumption -exfalso only [*]))
  all_goals (first | exact ahF (by assumption) (by assumption) (by assumption) (by assumption) | exact aiN (by assumption) (by assumption))
end Go.Proofs.YtcfechepbamhkaaGreat
namespace Go.Proofs.YtcfechepbamhkaaGreat
open Go.RowKit Go.Sea
open Nat renaming reduceAdd -> xA, reduceLT -> xL, reduceLeDiff -> xD, reduceEqDiff -> xE, reduceMul -> xM, reduceSub -> xS, reduceBEq -> xB
theorem Ue : aN Tryz.prog 181 = true := by kernel_rfl
theorem Xz : aN Tryz.prog 208 = true := by kernel_rfl
theorem Vm : aN Tryz.prog 209 = true := by kernel_rfl
theorem ZU : aN Tryz.prog 211 = true := by kernel_rfl
theorem UM : aN Tryz.prog 212 = true := by kernel_rfl
attribute [go_sem] Ue Xz Vm ZU UM
def ltI (P : Nat -> Nat -> Int) (i : Nat) : Prop := P 0 0 < P i 0 \/ (P 0 0 = P i 0 /\ P 0 1 < P i 1)
instance (P : Nat -> Nat -> Int) (i : Nat) : Decidable (ltI P i) := by unfold ltI; infer_instance
def adr (P : Nat -> Nat -> Int) (i : Nat) : Prop := gK (P i 0) (P i 1) = true /\ (0 < i -> ltI P i)
instance (P : Nat -> Nat -> Int) (i : Nat) : Decidable (adr P i) := by unfold adr; infer_instance
def YB (n i : Nat) : Nat := (((i : Int) + 2) % (n : Int)).toNat
def trI (P : Nat -> Nat -> Int) (n i : Nat) : Int := XR (P i 0) (P i 1) (P (nx n i) 0) (P (nx n i) 1) (P (YB n i) 0) (P (YB n i) 1)
def y9 (n : Nat) (P : Nat -> Nat -> Int) : Bool := decide ((3 <= n /\ n <= 24) /\ (∀ i, i < n -> adr P i) /\ (∀ i, i < n -> trI P n i ≠ 0) /\ Sl P n = true /\ 0 < Wv P n n)
theorem ajG {n : Nat} {P : Nat -> Nat -> Int} (h : (n : Int) < 3 \/ (n : Int) > 24) : false = y9 n P := (decide_eq_false fun g => by omega).symm
theorem ahc {n i : Nat} {P : Nat -> Nat -> Int} (h : gK (P i 0) (P i 1) = false) (hi : (i : Int) < n) : false = y9 n P :=
  (decide_eq_false fun g => by have := (g.2.1 i (by omega)).1; rw [h] at this; cases this).symm
theorem ajH {n i : Nat} {P : Nat -> Nat -> Int} (h : decide (P 0 0 < P i 0 \/ (P 0 0 = P i 0 /\ P 0 1 < P i 1)) = false) (h0 : (i : Int) > 0) (hi : (i : Int) < n) : false = y9 n P :=
  (decide_eq_false fun g => by have := (g.2.1 i (by omega)).2 (by omega); unfold ltI at this; rw [decide_eq_false_iff_not] at h; exact h this).symm
theorem agD {n i : Nat} {P : Nat -> Nat -> Int} (h : trI P n i = 0) (hi : (i : Int) < n) : false = y9 n P := (decide_eq_false fun g => g.2.2.1 i (by omega) h).symm
theorem ald {n i j : Nat} {P : Nat -> Nat -> Int} (hn : 3 <= n /\ n <= 24) (hi : (n : Int) <= i) (hj : (n : Int) <= j) (g : ∀ i', i' < i -> adr P i') (g2 : ∀ i', i' < j -> trI P n i' ≠ 0) : (Sl P n && decide (Wv P n n > 0)) = y9 n P := by
  refine Bool.eq_iff_iff.2 ?_
  simp only [y9, Bool.and_eq_true, decide_eq_true_eq]
  exact ⟨fun h => ⟨hn, fun k hk => g k (by omega), fun k hk => g2 k (by omega), h.1, h.2⟩, fun h => ⟨h.2.2.2.1, h.2.2.2.2⟩⟩
end Go.Proofs.YtcfechepbamhkaaGreat
set_option maxRecDepth 100000
set_option maxHeartbeats 4000000
namespace Go.Proofs.YtcfechepbamhkaaGreat
open Go.RowKit Go.Sea
open Nat renaming reduceAdd -> xA, reduceLT -> xL, reduceLeDiff -> xD, reduceEqDiff -> xE, reduceMul -> xM, reduceSub -> xS, reduceBEq -> xB
theorem Ul : aN Tryz.prog 197 = true := by kernel_rfl
theorem Kq : aN Tryz.prog 198 = true := by kernel_rfl
theorem JE : aN Tryz.prog 199 = true := by kernel_rfl
theorem Jz : aN Tryz.prog 200 = true := by kernel_rfl
theorem IQ : aN Tryz.prog 202 = true := by kernel_rfl
theorem I6 : aN Tryz.prog 203 = true := by kernel_rfl
theorem JH : aN Tryz.prog 220 = true := by kernel_rfl
attribute [go_sem] Kq JE Jz IQ I6 JH
def trJ (P : Nat -> Nat -> Int) (n i : Nat) : Int := tvV (P (D6 n ((i : Int) - 1)) 0) (P (D6 n ((i : Int) - 1)) 1) (P i 0) (P i 1) (P (D6 n ((i : Int) + 1)) 0) (P (D6 n ((i : Int) + 1)) 1)
theorem LX {n i : Nat} (hi : i < n) : nx n i = if i + 1 = n then 0 else i + 1 := by
  unfold nx D6
  rw [Int.add_emod_right]
  split
  · rw [show (i : Int) + 1 = n by omega, Int.emod_self]; rfl
  · rw [Int.emod_eq_of_lt (by omega) (by omega)]; omega
theorem La {n i : Nat} (hi : i < n) : D6 n ((i : Int) - 1) = if i = 0 then n - 1 else i - 1 := by
  unfold D6
  split
  · rw [Int.emod_eq_of_lt (by omega) (by omega)]; omega
  · rw [Int.add_emod_right, Int.emod_eq_of_lt (by omega) (by omega)]; omega
theorem aeJ {n i : Nat} (hn : 3 <= n) (hi : i < n) : YB n i = if i + 2 = n then 0 else if i + 1 = n then 1 else i + 2 := by
  unfold YB
  split
  · rw [show (i : Int) + 2 = n by omega, Int.emod_self]; rfl
  · split
    · rw [show (i : Int) + 2 = 1 + n by omega, Int.add_emod_right, Int.emod_eq_of_lt (by omega) (by omega)]; rfl
    · rw [Int.emod_eq_of_lt (by omega) (by omega)]; omega
theorem Wx {P : Nat -> Nat -> Int} {n j : Nat} (hn : 3 <= n) (hp : qx P n) (hj : j < n) : trJ P n j = trI P n (D6 n ((j : Int) - 1)) := by
  have e0 := La hj
  have hi : D6 n ((j : Int) - 1) < n := by rw [e0]; split <;> omega
  have e1 : nx n (D6 n ((j : Int) - 1)) = j := by rw [LX hi, e0]; split <;> (split <;> omega)
  have e2 : YB n (D6 n ((j : Int) - 1)) = nx n j := by
    rw [aeJ hn hi, LX hj, e0]; repeat' split
    all_goals omega
  unfold trJ trI tvV
  rw [e1, e2]
  have e3 : D6 n ((j : Int) + 1) = nx n j := rfl
  rw [e3, hp _ hi, hp _ hj, hp _ (Iy (n := n) (i := j) (by omega))]; rfl
theorem amC {n i : Nat} (hi : i < n) : D6 n (((nx n i : Nat) : Int) - 1) = i := by
  have h := Iy (n := n) (i := i) (by omega)
  rw [La h, LX hi]; repeat' split
  all_goals omega
def am1 (P : Nat -> Nat -> Int) (i : Nat) : Prop := 0 < i -> Zg (P 0 0) (P 0 1) (P i 0) (P i 1) < 0
theorem agb {P : Nat -> Nat -> Int} {n i j : Nat} (hn : 3 <= (n : Int) /\ (n : Int) <= 24) (haj : ∀ j', j' < j -> gK (P j' 0) (P j' 1) = true) (hj : (n : Int) <= j) (hi : (i : Int) < n) (h : ((i : Int) > 0 /\ Zg (P 0 0) (P 0 1) (P i 0) (P i 1) >= 0) \/ trJ P n i = 0) : false = y9 n P := by
  rcases h with h | h
  · exact ajH (decide_eq_false ((NQ _ _ _ _).1 h.2)) h.1 hi
  · rw [Wx (by omega) (fun k hk => haj k (by omega)) (by omega)] at h
    refine agD h ?_
    have := La (n := n) (i := i) (by omega)
    rw [this]; split <;> omega
theorem ahQ {P : Nat -> Nat -> Int} {n i j : Nat} (hn : 3 <= (n : Int) /\ (n : Int) <= 24) (haj : ∀ j', j' < j -> gK (P j' 0) (P j' 1) = true) (hj : (n : Int) <= j) (hai : ∀ i', i' < i -> am1 P i' /\ trJ P n i' ≠ 0) (hi : (n : Int) <= i) : (Sl P n && decide (Wv P n n > 0)) = y9 n P := by
  have hp : qx P n := fun k hk => haj k (by omega)
  refine ald (i := n) (j := n) (by omega) (by omega) (by omega) (fun k hk => ⟨hp k hk, fun h0 => ?_⟩) (fun k hk => ?_)
  · have h1 := (hai k (by omega)).1 h0
    have h2 := NQ (P 0 0) (P 0 1) (P k 0) (P k 1)
    unfold ltI
    exact Classical.byContradiction fun g => by have := h2.2 g; omega
  · have hx := Iy (n := n) (i := k) (by omega)
    have h1 := (hai (nx n k) (by omega)).2
    rw [Wx (by omega) hp hx, amC hk] at h1
    exact h1
theorem akw (x y : Int) : aA Tryz.prog 197 [.agg [.g (.int .i64 (x)), .g (.int .i64 (y))]] (.t (.one (.g (.bool (!gK x y))))) := by
  refine ak Tryz.func197 rfl (by rw [Tryz.ntmps197]; simp) ?_
  simp only [Tryz.ntmps197, zM, PT.tv, au, Nat.zero_add, Nat.reduceAdd]
  repeat' (first
 | ((with_reducible show AW _ _ _ _); first
 | (with_reducible first | refine aS (fun K hK => ?_) | refine aT ?_)
 | (first
 | (with_reducible first | refine aP 0 [0] ?_ | refine aP 1 [1] ?_)))
 | (((with_reducible refine Need.mk ?_)); focus (exact True.intro))
 | (with_reducible refine aJ ?_)
 | ((with_reducible show aQ _ _ _ _ _ _ _ _ _ _); first
 | (refine aF (k := 144) jT (yG _ _) ?_ ?_))
 | ((fail_if_success (with_reducible show AW _ _ _ _)); simp (maxSteps := 2000000) only [go_sem, reduceIte, reduceCtorEq, xA, xL, xD, xE, xM, xS, xB, Tryz.f197])
 | ((with_reducible refine hK _ ?_); clear hK K))
theorem amR (n : Nat) (P : Nat -> Nat -> Int) (hn : n <= 9223372036854775807) : aA Tryz.prog 170 [.one (.lst 2 n (eO P))] (.t (.one (.g (.bool (y9 n P))))) := by
  refine ak Tryz.func170 rfl (by rw [Tryz.ntmps170]; simp) ?_
  simp only [Tryz.ntmps170, zM, PT.tv, au, Nat.zero_add, Nat.reduceAdd]
  repeat' (first
 | ((with_reducible show AW _ _ _ _); first
 | (with_reducible first | refine aS (fun K hK => ?_) | refine aI ?_ | refine aX ?_ | refine aT ?_ | refine aC ?_ | refine aB ?_)
 | (first
 | (with_reducible first | refine aP 0 [0,1] ?_ | refine aP (ops := #[⟨some 3, _, _, _, _, _⟩]) 1 [0] ?_ | refine aP (ops := #[⟨some 5, _, _, _, _, _⟩, _, _, _, _]) 1 [0,1] ?_ | refine aP (ops := #[⟨some 6, _, _, _, _, _⟩, _, _]) 1 [0,1] ?_ | refine aP (ops := #[⟨some 6, _, _, _, _, _⟩, _, _, _, _, _, _, _, _, _, _, _, _]) 2 [0,3] ?_ | refine aP (ops := #[⟨some 9, _, _, _, _, _⟩]) 2 [0,1,7,8] ?_ | refine aP (ops := #[⟨some 2, _, _, _, _, _⟩]) 3 [] ?_ | refine aP (ops := #[⟨some 10, _, _, _, _, _⟩, _]) 3 [0,1,7,8] ?_ | refine aP (ops := #[⟨some 19, _, _, _, _, _⟩, _]) 4 [0] ?_ | refine aP (ops := #[⟨some 11, _, _, _, _, _⟩, _, _, _, _, _]) 4 [0,1,5,7,8] ?_ | refine aP (ops := #[⟨some 20, _, _, _, _, _⟩, _, _]) 5 [4] ?_ | refine aP (ops := #[⟨some 17, _, _, _, _, _⟩, _]) 5 [5] ?_ | refine aP (ops := #[⟨some 23, _, _, _, _, _⟩]) 6 [4,21,22] ?_ | refine aP (ops := #[⟨some 18, _, _, _, _, _⟩, _]) 6 [0,1,7,8] ?_ | refine aP (ops := #[⟨some 24, _, _, _, _, _⟩, _]) 7 [4,21,22] ?_ | refine aP (ops := #[⟨some 4, _, _, _, _, _⟩]) 7 [] ?_)
 | ((with_reducible refine aR (c := Code.region 8 _ true) [4,5,21,22] ?_); (with_reducible refine aD ?_ ?_ ?_ ?_); (focus kernel_rfl); (focus kernel_rfl); (focus kernel_rfl))
 | (with_reducible first | refine aP 9 [] ?_ | refine aP 10 [4,21,22] ?_ | refine aP 11 [4] ?_))
 | ((with_reducible show AW _ (Code.loop _) _ _); first
 | ((with_reducible refine aL (c := (Code.seq (Code.region 2 _ _) _)) (ι := Nat) [0,1,7] (fun j => [(8, iA .i64 (j : Int))]) (fun j => []) (fun j => j <= n /\ (∀ j', j' < j -> gK (P j' 0) (P j' 1) = true)) (fun j => n - j) 0 ?lg2 ?l12 ?l22 ?li2 ?lr2); (case' lg2 => rintro j _); (case' li2 => try (exact ⟨Nat.zero_le _, fun i hi => absurd hi (Nat.not_lt_zero _)⟩)); (case' lr2 => rintro j ⟨hj, haj⟩ KR hR2; simp only [bI, dI, hset, lk, if_true, if_false, xE, reduceIte, zN]))
 | ((with_reducible refine aL (c := (Code.seq (Code.region 6 _ _) _)) (ι := Nat) [4,21] (fun i => [(22, iA .i64 (i : Int))]) (fun i => []) (fun i => i <= n /\ (∀ i', i' < i -> am1 P i' /\ trJ P n i' ≠ 0)) (fun i => n - i) 0 ?lg6 ?l16 ?l26 ?li6 ?lr6); (case' lg6 => rintro i _); (case' li6 => try (exact ⟨Nat.zero_le _, fun i hi => absurd hi (Nat.not_lt_zero _)⟩)); (case' lr6 => rintro i ⟨hi, hai⟩ KR hR6; simp only [bI, dI, hset, lk, if_true, if_false, xE, reduceIte, zN]))))
 | ((first | (with_reducible refine And.intro ?_ ?_) | (with_reducible refine Need.mk ?_)); focus (first | exact True.intro | omega | (intro _; (with_reducible assumption)) | (intros; (repeat' (first | omega | (with_reducible refine And.intro ?_ ?_))); done) | (simp; done) | (simp; omega)))
 | (with_reducible refine aJ ?_)
 | ((with_reducible show bL _ _ _ _ _ _); first
 | ((with_reducible refine aM ?_ ?_) <;> (intro hc; (try simp only [zB, zC, reduceCtorEq] at hc); (try (exfalso; omega)))))
 | ((with_reducible refine And.intro ?_ ?_); focus ((with_reducible show gW _ _ _ = true); kernel_rfl))
 | ((with_reducible show aQ _ _ _ _ _ _ _ _ _ _); first
 | (refine aF (k := 197) Ul (akw _ _) ?_ ?_)
 | (refine aF (k := 202) IQ (ZH n P (by omega)) ?_ ?_)
 | ((refine dA (k := 198) Tryz.func198 rfl Kq (by rw [Tryz.ntmps198]; simp) ?_ ?_ (fun K hK => ?_)); (focus ((simp; omega))); (focus ((simp [jF]; done))); simp only [Tryz.ntmps198, List.map_cons, List.map_nil, List.nil_append, List.cons_append, List.append_nil, LV.tv, au, Nat.zero_add, Nat.reduceAdd])
 | ((refine dA (k := 220) Tryz.func220 rfl JH (by rw [Tryz.ntmps220]; simp) ?_ ?_ (fun K hK => ?_)); (focus (exact True.intro)); (focus ((simp [jF]; done))); simp only [Tryz.ntmps220, List.map_cons, List.map_nil, List.nil_append, List.cons_append, List.append_nil, LV.tv, au, Nat.zero_add, Nat.reduceAdd]))
 | ((with_reducible show iY _ _ _ _ _ _ _ _ _ _ _ _ _); first
 | (refine gF (k := 199) JE (fun hg => afb _ _ _ _) ?_ ?_)
 | (refine gF (k := 200) Jz (fun hg => aeu _ _ _ _ _ _) ?_ ?_)
 | (refine gF (k := 201) vg (fun hg => Cy n P _ (by omega) (by omega)) ?_ ?_))
 | ((with_reducible show bG _ _ _ _ _ _ _ _ _ _); first
 | (refine aO (k := 203) I6 (fun hg => adQ n P (by omega) (fun k hk => haj k (by omega))) ?_ ?_)
 | ((refine iL (k := 198) ?_ ?_) <;> (intro hc; (try simp only [zB, zC, reduceCtorEq] at hc); (try (exfalso; contradiction)))))
 | ((with_reducible refine hR2 _ (j + 1) ?_); (try clear hR2 KR))
 | ((with_reducible refine hR6 _ (i + 1) ?_); (try clear hR6 KR))
 | ((with_reducible refine Told.mk ?_); simp only [go_sem, reduceIte, reduceCtorEq, xA, xL, xD, xE, xM, xS, xB, eO] <;> (first | (((try simp (disch := omega) only [aV, Int.natCast_add, Int.cast_ofNat_Int, and_true, true_and, and_self]); (repeat' (first | omega | (with_reducible refine And.intro ?_ ?_) | (exact all_succ (by assumption) (by assumption)) )); done)) | (((try simp (disch := omega) only [aV, Int.natCast_add, Int.cast_ofNat_Int, and_true, true_and, and_self]); (repeat' (first | omega | (with_reducible refine And.intro ?_ ?_) | ((exact all_succ (by assumption) ⟨fun h0 => by omega, by unfold trJ; exact hc.2⟩)))); done))))
 | ((fail_if_success (with_reducible show AW _ _ _ _)); simp (maxSteps := 2000000) only [go_sem, reduceIte, reduceCtorEq, xA, xL, xD, xE, xM, xS, xB, Tryz.f170, Tryz.f198, Tryz.f220, eO])
 | ((fail_if_success (with_reducible show AW _ _ _ _)); simp (disch := omega) only [aV, ig, iq])
 | ((with_reducible refine hK _ ?_); clear hK K)
 | (with_reducible apply_assumption -exfalso only [*]))
  all_goals (first | exact ajG (by assumption) | exact ahc (by assumption) (by assumption) | exact agb (by assumption) haj (by assumption) (by assumption) hc | exact ahQ (by assumption) haj (by assumption) hai hc)
end Go.Proofs.YtcfechepbamhkaaGreat
set_option maxRecDepth 100000
set_option maxHeartbeats 4000000
namespace Go.Proofs.YtcfechepbamhkaaGreat
open Go.RowKit Go.Sea
open Nat renaming reduceAdd -> xA, reduceLT -> xL, reduceLeDiff -> xD, reduceEqDiff -> xE, reduceMul -> xM, reduceSub -> xS, reduceBEq -> xB
theorem ahz : boD Tryz.prog 174 = false := by kernel_rfl
theorem ami : boD Tryz.prog 60 = false := by kernel_rfl
theorem ag2 : eqD Tryz.prog 174 = some (true, [.int .i64, .int .i64, .int .i64, .int .i64, .int .i64, .int .i64]) := by kernel_rfl
theorem al5 : eqD Tryz.prog 60 = some (true, [.int .i64, .int .i64]) := by kernel_rfl
attribute [go_sem] ahz ami ag2 al5
def eqI (w : Nat) (P Q : Nat -> Nat -> Int) (i : Nat) : Prop := ∀ o, o < w -> P i o = Q i o
def AP (w n m : Nat) (P Q : Nat -> Nat -> Int) : Bool := decide (n = m /\ ∀ i, i < n -> ∀ o, o < w -> P i o = Q i o)
theorem GX {w n m : Nat} {P Q : Nat -> Nat -> Int} (h : (n : Int) ≠ m) : false = AP w n m P Q := (decide_eq_false fun g => by omega).symm
theorem O9 {w n m i : Nat} {P Q : Nat -> Nat -> Int} (h : (n : Int) = m) (hi : (n : Int) <= i) (g : ∀ i', i' < i -> eqI w P Q i') : true = AP w n m P Q := (decide_eq_true ⟨by omega, fun k hk => g k (by omega)⟩).symm
theorem ahy (n m : Nat) (P Q : Nat -> Nat -> Int) (hn : n <= 9223372036854775807) (hm : m <= 9223372036854775807) : aA Tryz.prog 146 [.one (.lst 2 n (eO P)), .one (.lst 2 m (eO Q))] (.t (.one (.g (.bool (AP 2 n m P Q))))) := by
  refine ak Tryz.func146 rfl (by rw [Tryz.ntmps146]; simp) ?_
  simp only [Tryz.ntmps146, zM, PT.tv, au, Nat.zero_add, Nat.reduceAdd]
  repeat' (first
 | ((with_reducible show AW _ _ _ _); first
 | (with_reducible first | refine aS (fun K hK => ?_) | refine aI ?_ | refine aX ?_ | refine aT ?_ | refine aC ?_ | refine aB ?_)
 | (first
 | (with_reducible first | refine aP 0 [0,1] ?_ | refine aP 1 [0,1] ?_ | refine aP 2 [] ?_ | refine aP 3 [0,1] ?_ | refine aP 4 [0,1,12,13] ?_ | refine aP 5 [0,1,12,13] ?_)
 | ((with_reducible refine aR (c := Code.region 6 _ true) [0,1,5,12,13] ?_); (with_reducible refine aD ?_ ?_ ?_ ?_); (focus kernel_rfl); (focus kernel_rfl); (focus kernel_rfl))
 | (with_reducible first | refine aP 7 [] ?_ | refine aP 8 [0,1,12,13] ?_ | refine aP 9 [] ?_))
 | ((with_reducible show AW _ (Code.loop _) _ _); first
 | ((with_reducible refine aL (c := (Code.seq (Code.region 4 _ _) _)) (ι := Nat) [0,1,12] (fun i => [(13, iA .i64 (i : Int))]) (fun i => []) (fun i => i <= n /\ (∀ i', i' < i -> eqI 2 P Q i')) (fun i => n - i) 0 ?lg4 ?l14 ?l24 ?li4 ?lr4); (case' lg4 => rintro i _); (case' li4 => try (exact ⟨Nat.zero_le _, fun i hi => absurd hi (Nat.not_lt_zero _)⟩)); (case' lr4 => rintro i ⟨hi, hai⟩ KR hR4; simp only [bI, dI, hset, lk, if_true, if_false, xE, reduceIte, zN, Go.Sea.nZ]))))
 | (((with_reducible refine And.intro ?_ ?_)); focus (omega))
 | (with_reducible refine aJ ?_)
 | ((with_reducible show bL _ _ _ _ _ _); first
 | ((with_reducible refine aM ?_ ?_) <;> (intro hc; (try simp only [zB, zC, reduceCtorEq] at hc); (try (exfalso; contradiction)))))
 | ((with_reducible refine And.intro ?_ ?_); focus ((with_reducible show gW _ _ _ = true); kernel_rfl))
 | ((with_reducible refine hR4 _ (i + 1) ?_); (try clear hR4 KR))
 | ((with_reducible refine Told.mk ?_); simp only [go_sem, reduceIte, reduceCtorEq, xA, xL, xD, xE, xM, xS, xB, eO, Go.Sea.nZ] <;> ((((try simp (disch := omega) only [aV, Int.natCast_add, Int.cast_ofNat_Int, and_true, true_and, and_self]); (repeat' (first | omega | (with_reducible refine And.intro ?_ ?_) | ((exact all_succ (by assumption) (by (intro o ho; rcases o with _ | _ | o <;> first | omega | (simp_all; done))))))); done))))
 | ((fail_if_success (with_reducible show AW _ _ _ _)); simp (maxSteps := 2000000) only [go_sem, reduceIte, reduceCtorEq, xA, xL, xD, xE, xM, xS, xB, Tryz.f146, eO, Go.Sea.nZ])
 | ((with_reducible refine hK _ ?_); clear hK K)
 | (with_reducible apply_assumption -exfalso only [*]))
  all_goals (first | exact GX (by omega) | exact O9 (by omega) (by omega) hai | (refine (decide_eq_false fun g => ?_).symm; have g2 := g.2 i (by omega); have r0 := g2 0 (by omega); have r1 := g2 1 (by omega); simp_all; done))
theorem adb (n m : Nat) (P Q : Nat -> Nat -> Int) (hn : n <= 9223372036854775807) (hm : m <= 9223372036854775807) : aA Tryz.prog 112 [.one (.lst 2 n (eO P)), .one (.lst 2 m (eO Q))] (.t (.one (.g (.bool (AP 2 n m P Q))))) := by
  refine ak Tryz.func112 rfl (by rw [Tryz.ntmps112]; simp) ?_
  simp only [Tryz.ntmps112, zM, PT.tv, au, Nat.zero_add, Nat.reduceAdd]
  repeat' (first
 | ((with_reducible show AW _ _ _ _); first
 | (with_reducible first | refine aS (fun K hK => ?_) | refine aI ?_ | refine aX ?_ | refine aT ?_ | refine aC ?_ | refine aB ?_)
 | (first
 | (with_reducible first | refine aP 0 [0,1] ?_ | refine aP 1 [0,1] ?_ | refine aP 2 [] ?_ | refine aP 3 [0,1] ?_ | refine aP 4 [0,1,5] ?_ | refine aP 5 [0,1,5] ?_)
 | ((with_reducible refine aR (c := Code.region 6 _ true) [0,1,5] ?_); (with_reducible refine aD ?_ ?_ ?_ ?_); (focus kernel_rfl); (focus kernel_rfl); (focus kernel_rfl))
 | (with_reducible first | refine aP 7 [] ?_ | refine aP 8 [] ?_))
 | ((with_reducible show AW _ (Code.loop _) _ _); first
 | ((with_reducible refine aL (c := (Code.seq (Code.seq (Code.region 4 _ _) _) _)) (ι := Nat) [0,1] (fun i => [(5, iA .i64 (i : Int))]) (fun i => []) (fun i => i <= n /\ (∀ i', i' < i -> eqI 2 P Q i')) (fun i => n - i) 0 ?lg4 ?l14 ?l24 ?li4 ?lr4); (case' lg4 => rintro i _); (case' li4 => try (exact ⟨Nat.zero_le _, fun i hi => absurd hi (Nat.not_lt_zero _)⟩)); (case' lr4 => rintro i ⟨hi, hai⟩ KR hR4; simp only [bI, dI, hset, lk, if_true, if_false, xE, reduceIte, zN, Go.Sea.nZ]))))
 | (((with_reducible refine And.intro ?_ ?_)); focus (omega))
 | (with_reducible refine aJ ?_)
 | ((with_reducible show bL _ _ _ _ _ _); first
 | ((with_reducible refine aM ?_ ?_) <;> (intro hc; (try simp only [zB, zC, reduceCtorEq] at hc); (try (exfalso; contradiction)))))
 | ((with_reducible refine And.intro ?_ ?_); focus ((with_reducible show gW _ _ _ = true); kernel_rfl))
 | ((with_reducible refine hR4 _ (i + 1) ?_); (try clear hR4 KR))
 | ((with_reducible refine Told.mk ?_); simp only [go_sem, reduceIte, reduceCtorEq, xA, xL, xD, xE, xM, xS, xB, eO, Go.Sea.nZ] <;> ((((try simp (disch := omega) only [aV, Int.natCast_add, Int.cast_ofNat_Int, and_true, true_and, and_self]); (repeat' (first | omega | (with_reducible refine And.intro ?_ ?_) | ((exact all_succ (by assumption) (by (intro o ho; rcases o with _ | _ | o <;> first | omega | (simp_all; done))))))); done))))
 | ((fail_if_success (with_reducible show AW _ _ _ _)); simp (maxSteps := 2000000) only [go_sem, reduceIte, reduceCtorEq, xA, xL, xD, xE, xM, xS, xB, Tryz.f112, eO, Go.Sea.nZ])
 | ((with_reducible refine hK _ ?_); clear hK K)
 | (with_reducible apply_assumption -exfalso only [*]))
  all_goals (first | exact GX (by omega) | exact O9 (by omega) (by omega) hai | (refine (decide_eq_false fun g => ?_).symm; have g2 := g.2 i (by omega); have r0 := g2 0 (by omega); have r1 := g2 1 (by omega); simp_all; done))
theorem abP (n m : Nat) (P Q : Nat -> Nat -> Int) (hn : n <= 9223372036854775807) (hm : m <= 9223372036854775807) : aA Tryz.prog 147 [.one (.lst 6 n (eO P)), .one (.lst 6 m (eO Q))] (.t (.one (.g (.bool (AP 6 n m P Q))))) := by
  refine ak Tryz.func147 rfl (by rw [Tryz.ntmps147]; simp) ?_
  simp only [Tryz.ntmps147, zM, PT.tv, au, Nat.zero_add, Nat.reduceAdd]
  repeat' (first
 | ((with_reducible show AW _ _ _ _); first
 | (with_reducible first | refine aS (fun K hK => ?_) | refine aI ?_ | refine aX ?_ | refine aT ?_ | refine aC ?_ | refine aB ?_)
 | (first
 | (with_reducible first | refine aP 0 [0,1] ?_ | refine aP 1 [0,1] ?_ | refine aP 2 [] ?_ | refine aP 3 [0,1] ?_ | refine aP 4 [0,1,12,13] ?_ | refine aP 5 [0,1,12,13] ?_)
 | ((with_reducible refine aR (c := Code.region 6 _ true) [0,1,5,12,13] ?_); (with_reducible refine aD ?_ ?_ ?_ ?_); (focus kernel_rfl); (focus kernel_rfl); (focus kernel_rfl))
 | (with_reducible first | refine aP 7 [] ?_ | refine aP 8 [0,1,12,13] ?_ | refine aP 9 [] ?_))
 | ((with_reducible show AW _ (Code.loop _) _ _); first
 | ((with_reducible refine aL (c := (Code.seq (Code.region 4 _ _) _)) (ι := Nat) [0,1,12] (fun i => [(13, iA .i64 (i : Int))]) (fun i => []) (fun i => i <= n /\ (∀ i', i' < i -> eqI 6 P Q i')) (fun i => n - i) 0 ?lg4 ?l14 ?l24 ?li4 ?lr4); (case' lg4 => rintro i _); (case' li4 => try (exact ⟨Nat.zero_le _, fun i hi => absurd hi (Nat.not_lt_zero _)⟩)); (case' lr4 => rintro i ⟨hi, hai⟩ KR hR4; simp only [bI, dI, hset, lk, if_true, if_false, xE, reduceIte, zN, Go.Sea.nZ]))))
 | (((with_reducible refine And.intro ?_ ?_)); focus (omega))
 | (with_reducible refine aJ ?_)
 | ((with_reducible show bL _ _ _ _ _ _); first
 | ((with_reducible refine aM ?_ ?_) <;> (intro hc; (try simp only [zB, zC, reduceCtorEq] at hc); (try (exfalso; contradiction)))))
 | ((with_reducible refine And.intro ?_ ?_); focus ((with_reducible show gW _ _ _ = true); kernel_rfl))
 | ((with_reducible refine hR4 _ (i + 1) ?_); (try clear hR4 KR))
 | ((with_reducible refine Told.mk ?_); simp only [go_sem, reduceIte, reduceCtorEq, xA, xL, xD, xE, xM, xS, xB, eO, Go.Sea.nZ] <;> ((((try simp (disch := omega) only [aV, Int.natCast_add, Int.cast_ofNat_Int, and_true, true_and, and_self]); (repeat' (first | omega | (with_reducible refine And.intro ?_ ?_) | ((exact all_succ (by assumption) (by (intro o ho; rcases o with _ | _ | _ | _ | _ | _ | o <;> first | omega | (simp_all; done))))))); done))))
 | ((fail_if_success (with_reducible show AW _ _ _ _)); simp (maxSteps := 2000000) only [go_sem, reduceIte, reduceCtorEq, xA, xL, xD, xE, xM, xS, xB, Tryz.f147, eO, Go.Sea.nZ])
 | ((with_reducible refine hK _ ?_); clear hK K)
 | (with_reducible apply_assumption -exfalso only [*]))
  all_goals (first | exact GX (by omega) | exact O9 (by omega) (by omega) hai | (refine (decide_eq_false fun g => ?_).symm; have g2 := g.2 i (by omega); have r0 := g2 0 (by omega); have r1 := g2 1 (by omega); have r2 := g2 2 (by omega); have r3 := g2 3 (by omega); have r4 := g2 4 (by omega); have r5 := g2 5 (by omega); simp_all; done))
theorem U7 (n m : Nat) (P Q : Nat -> Nat -> Int) (hn : n <= 9223372036854775807) (hm : m <= 9223372036854775807) : aA Tryz.prog 113 [.one (.lst 6 n (eO P)), .one (.lst 6 m (eO Q))] (.t (.one (.g (.bool (AP 6 n m P Q))))) := by
  refine ak Tryz.func113 rfl (by rw [Tryz.ntmps113]; simp) ?_
  simp only [Tryz.ntmps113, zM, PT.tv, au, Nat.zero_add, Nat.reduceAdd]
  repeat' (first
 | ((with_reducible show AW _ _ _ _); first
 | (with_reducible first | refine aS (fun K hK => ?_) | refine aI ?_ | refine aX ?_ | refine aT ?_ | refine aC ?_ | refine aB ?_)
 | (first
 | (with_reducible first | refine aP 0 [0,1] ?_ | refine aP 1 [0,1] ?_ | refine aP 2 [] ?_ | refine aP 3 [0,1] ?_ | refine aP 4 [0,1,5] ?_ | refine aP 5 [0,1,5] ?_)
 | ((with_reducible refine aR (c := Code.region 6 _ true) [0,1,5] ?_); (with_reducible refine aD ?_ ?_ ?_ ?_); (focus kernel_rfl); (focus kernel_rfl); (focus kernel_rfl))
 | (with_reducible first | refine aP 7 [] ?_ | refine aP 8 [] ?_))
 | ((with_reducible show AW _ (Code.loop _) _ _); first
 | ((with_reducible refine aL (c := (Code.seq (Code.seq (Code.region 4 _ _) _) _)) (ι := Nat) [0,1] (fun i => [(5, iA .i64 (i : Int))]) (fun i => []) (fun i => i <= n /\ (∀ i', i' < i -> eqI 6 P Q i')) (fun i => n - i) 0 ?lg4 ?l14 ?l24 ?li4 ?lr4); (case' lg4 => rintro i _); (case' li4 => try (exact ⟨Nat.zero_le _, fun i hi => absurd hi (Nat.not_lt_zero _)⟩)); (case' lr4 => rintro i ⟨hi, hai⟩ KR hR4; simp only [bI, dI, hset, lk, if_true, if_false, xE, reduceIte, zN, Go.Sea.nZ]))))
 | (((with_reducible refine And.intro ?_ ?_)); focus (omega))
 | (with_reducible refine aJ ?_)
 | ((with_reducible show bL _ _ _ _ _ _); first
 | ((with_reducible refine aM ?_ ?_) <;> (intro hc; (try simp only [zB, zC, reduceCtorEq] at hc); (try (exfalso; contradiction)))))
 | ((with_reducible refine And.intro ?_ ?_); focus ((with_reducible show gW _ _ _ = true); kernel_rfl))
 | ((with_reducible refine hR4 _ (i + 1) ?_); (try clear hR4 KR))
 | ((with_reducible refine Told.mk ?_); simp only [go_sem, reduceIte, reduceCtorEq, xA, xL, xD, xE, xM, xS, xB, eO, Go.Sea.nZ] <;> ((((try simp (disch := omega) only [aV, Int.natCast_add, Int.cast_ofNat_Int, and_true, true_and, and_self]); (repeat' (first | omega | (with_reducible refine And.intro ?_ ?_) | ((exact all_succ (by assumption) (by (intro o ho; rcases o with _ | _ | _ | _ | _ | _ | o <;> first | omega | (simp_all; done))))))); done))))
 | ((fail_if_success (with_reducible show AW _ _ _ _)); simp (maxSteps := 2000000) only [go_sem, reduceIte, reduceCtorEq, xA, xL, xD, xE, xM, xS, xB, Tryz.f113, eO, Go.Sea.nZ])
 | ((with_reducible refine hK _ ?_); clear hK K)
 | (with_reducible apply_assumption -exfalso only [*]))
  all_goals (first | exact GX (by omega) | exact O9 (by omega) (by omega) hai | (refine (decide_eq_false fun g => ?_).symm; have g2 := g.2 i (by omega); have r0 := g2 0 (by omega); have r1 := g2 1 (by omega); have r2 := g2 2 (by omega); have r3 := g2 3 (by omega); have r4 := g2 4 (by omega); have r5 := g2 5 (by omega); simp_all; done))
end Go.Proofs.YtcfechepbamhkaaGreat
set_option maxRecDepth 100000
set_option maxHeartbeats 4000000
namespace Go.Proofs.YtcfechepbamhkaaGreat
open Go.RowKit Go.Sea
open Nat renaming reduceAdd -> xA, reduceLT -> xL, reduceLeDiff -> xD, reduceEqDiff -> xE, reduceMul -> xM, reduceSub -> xS, reduceBEq -> xB
theorem Kw : aN Tryz.prog 146 = true := by kernel_rfl
theorem Ja : aN Tryz.prog 147 = true := by kernel_rfl
theorem Ie : aN Tryz.prog 112 = true := by kernel_rfl
theorem IY : aN Tryz.prog 113 = true := by kernel_rfl
theorem Jt : aN Tryz.prog 169 = true := by kernel_rfl
theorem Ka : aN Tryz.prog 170 = true := by kernel_rfl
theorem IK : aN Tryz.prog 171 = true := by kernel_rfl
theorem UR : aN Tryz.prog 180 = true := by kernel_rfl
theorem TS : aN Tryz.prog 182 = true := by kernel_rfl
theorem aay : aN Tryz.prog 183 = true := by kernel_rfl
theorem aac : aN Tryz.prog 184 = true := by kernel_rfl
theorem Um : aN Tryz.prog 185 = true := by kernel_rfl
theorem ad3 : dF Tryz.prog 64 0 = some 0 := by kernel_rfl
theorem aa7 : dF Tryz.prog 64 1 = some 1 := by kernel_rfl
theorem adG : dF Tryz.prog 64 2 = some 2 := by kernel_rfl
theorem ab7 : dF Tryz.prog 64 3 = some 4 := by kernel_rfl
theorem abv : dF Tryz.prog 64 4 = some 5 := by kernel_rfl
theorem acR : dF Tryz.prog 64 5 = some 6 := by kernel_rfl
theorem abT : dF Tryz.prog 64 6 = some 7 := by kernel_rfl
theorem aaV : dF Tryz.prog 64 7 = some 8 := by kernel_rfl
theorem alj : lQ Tryz.prog 61 = some (false, 1) := by kernel_rfl
theorem al8 : lQ Tryz.prog 62 = some (false, 1) := by kernel_rfl
attribute [go_sem] Kw Ja Ie IY Jt Ka IK UR TS aay aac Um ad3 aa7 adG ab7 abv acR abT aaV alj al8
structure aZ where
  id : Int
  kd : Int
  x : Int
  y : Int
  r : Int
  n : Nat
  P : Nat -> Nat -> Int
  d : Int
  s : Int
  m : Nat
  S : Nat -> Nat -> Int
structure aZ.Ok (f : aZ) : Prop where
  n : f.n <= 9223372036854775807
  m : f.m <= 9223372036854775807
def rz (x y r : Int) : Bool := gK (x - r) (y - r) && gK (x + r) (y + r)
def Ch (id kd x y r : Int) (n : Nat) (d s : Int) (m : Nat) (pt rm po se : Bool) : Prop :=
  (1 <= id /\ id <= 100000) /\ (0 <= s /\ s <= 999) /\ (0 <= d /\ d <= 100000) /\ (0 <= r /\ r <= 100000) ∧
  ((kd = 1 \/ kd = 2 \/ kd = 5) /\ pt = true /\ rm = true /\ n = 0 /\ m = 0 \/ (kd = 3 \/ kd = 6) /\ (kd = 6 -> d = 0) /\ po = true /\ x = 0 /\ y = 0 /\ r = 0 /\ m = 0 \/ kd = 4 /\ pt = true /\ se = true /\ r = 0 /\ d = 0 /\ n = 0)
instance (id kd x y r : Int) (n : Nat) (d s : Int) (m : Nat) (pt rm po se : Bool) : Decidable (Ch id kd x y r n d s m pt rm po se) := by unfold Ch; infer_instance
def jv (f : aZ) : Bool := decide (Ch f.id f.kd f.x f.y f.r f.n f.d f.s f.m (gK f.x f.y) (rz f.x f.y f.r) (y9 f.n f.P) (uQ f.m f.S))
def uG (f g : aZ) : Bool := decide (f.id = g.id /\ f.kd = g.kd /\ f.x = g.x /\ f.y = g.y /\ f.r = g.r /\ f.d = g.d /\ f.s = g.s) && (AP 2 f.n g.n f.P g.P && AP 6 f.m g.m f.S g.S)
theorem N7 (x y : Int) : gK x y = true ↔ (-1000000 <= x /\ x <= 1000000 /\ -1000000 <= y /\ y <= 1000000) := by
  unfold gK; simp only [Bool.and_eq_true, decide_eq_true_eq, and_assoc]
theorem jW (f : aZ) : jv f = true ↔ Ch f.id f.kd f.x f.y f.r f.n f.d f.s f.m (gK f.x f.y) (rz f.x f.y f.r) (y9 f.n f.P) (uQ f.m f.S) := decide_eq_true_iff
def IB (f : aZ) : Prop := (1 <= f.id /\ f.id <= 100000) /\ (0 <= f.s /\ f.s <= 999) /\ (0 <= f.d /\ f.d <= 100000) /\ (0 <= f.r /\ f.r <= 100000)
theorem aiv {f : aZ} (h : ¬ IB f) : false = jv f := (decide_eq_false fun g => h ⟨g.1, g.2.1, g.2.2.1, g.2.2.2.1⟩).symm
theorem ahW {f : aZ} (h : f.kd ≠ 1 /\ f.kd ≠ 2 /\ f.kd ≠ 5 /\ f.kd ≠ 6 /\ f.kd ≠ 3 /\ f.kd ≠ 4) : false = jv f := (decide_eq_false fun g => by
  rcases g.2.2.2.2 with k | k | k <;> omega).symm
theorem ajr {f : aZ} (h : f.kd = 6) (hd : f.d > 0) : false = jv f := (decide_eq_false fun g => by
  rcases g.2.2.2.2 with k | k | k
  · omega
  · have := k.2.1 h; omega
  · omega).symm
theorem ag6 {f : aZ} (hr : IB f) (hk : f.kd = 1 \/ f.kd = 2 \/ f.kd = 5) : (gK f.x f.y && rz f.x f.y f.r && (f.n : Int) == 0 && (f.m : Int) == 0) = jv f := by
  refine Bool.eq_iff_iff.2 ?_
  rw [jW]; unfold Ch; simp only [Bool.and_eq_true, beq_iff_eq]
  constructor
  · rintro ⟨⟨⟨h1, h2⟩, h3⟩, h4⟩; exact ⟨hr.1, hr.2.1, hr.2.2.1, hr.2.2.2, Or.inl ⟨hk, h1, h2, by omega, by omega⟩⟩
  · rintro ⟨_, _, _, _, h | h | h⟩
    · exact ⟨⟨⟨h.2.1, h.2.2.1⟩, by omega⟩, by omega⟩
    · omega
    · omega
theorem aht {f : aZ} (hr : IB f) (hk : f.kd = 3 \/ f.kd = 6) (hd : f.kd = 6 -> f.d = 0) : (y9 f.n f.P && (f.x == 0 && f.y == 0) && f.r == 0 && (f.m : Int) == 0) = jv f := by
  refine Bool.eq_iff_iff.2 ?_
  rw [jW]; unfold Ch; simp only [Bool.and_eq_true, beq_iff_eq]
  constructor
  · rintro ⟨⟨⟨h1, h2⟩, h3⟩, h4⟩; exact ⟨hr.1, hr.2.1, hr.2.2.1, hr.2.2.2, Or.inr (Or.inl ⟨hk, hd, h1, h2.1, h2.2, h3, by omega⟩)⟩
  · rintro ⟨_, _, _, _, h | h | h⟩
    · omega
    · exact ⟨⟨⟨h.2.2.1, h.2.2.2.1, h.2.2.2.2.1⟩, h.2.2.2.2.2.1⟩, by omega⟩
    · omega
theorem af4 {f : aZ} (hr : IB f) (hk : f.kd = 4) : (gK f.x f.y && uQ f.m f.S && f.r == 0 && f.d == 0 && (f.n : Int) == 0) = jv f := by
  refine Bool.eq_iff_iff.2 ?_
  rw [jW]; unfold Ch; simp only [Bool.and_eq_true, beq_iff_eq]
  constructor
  · rintro ⟨⟨⟨⟨h1, h2⟩, h3⟩, h4⟩, h5⟩; exact ⟨hr.1, hr.2.1, hr.2.2.1, hr.2.2.2, Or.inr (Or.inr ⟨hk, h1, h2, h3, h4, by omega⟩)⟩
  · rintro ⟨_, _, _, _, h | h | h⟩
    · omega
    · omega
    · exact ⟨⟨⟨⟨h.2.1, h.2.2.1⟩, h.2.2.2.1⟩, h.2.2.2.2.1⟩, by omega⟩
theorem aeU (x y r : Int) (hp : gK x y = true) (hr : 0 <= r /\ r <= 100000) : aA Tryz.prog 169 [.agg [.g (.int .i64 (x)), .g (.int .i64 (y))], .one (.g (.int .i64 r))] (.t (.one (.g (.bool (rz x y r))))) := by
  have hq := (N7 _ _).1 hp
  refine ak Tryz.func169 rfl (by rw [Tryz.ntmps169]; simp) ?_
  simp only [Tryz.ntmps169, zM, PT.tv, au, Nat.zero_add, Nat.reduceAdd]
  repeat' (first
 | ((with_reducible show AW _ _ _ _); first
 | (with_reducible first | refine aS (fun K hK => ?_) | refine aT ?_)
 | (first
 | (with_reducible first | refine aP 0 [0,1] ?_ | refine aP 1 [1,2] ?_)))
 | (((with_reducible refine Need.mk ?_)); focus (first | exact True.intro | (intro _; (with_reducible assumption))))
 | (with_reducible refine aJ ?_)
 | ((with_reducible show aQ _ _ _ _ _ _ _ _ _ _); first
 | (refine aF (k := 144) jT (yG _ _) ?_ ?_))
 | ((with_reducible show bG _ _ _ _ _ _ _ _ _ _); first
 | (refine aO (k := 144) jT (fun hg => yG _ _) ?_ ?_))
 | ((fail_if_success (with_reducible show AW _ _ _ _)); simp (maxSteps := 2000000) only [go_sem, reduceIte, reduceCtorEq, xA, xL, xD, xE, xM, xS, xB, Tryz.f169])
 | ((fail_if_success (with_reducible show AW _ _ _ _)); simp (disch := omega) only [aV, ig, iq])
 | ((with_reducible refine hK _ ?_); clear hK K))
  all_goals ((unfold rz; simp_all; done))
theorem adS (x y r : Int) (hp : gK x y = true) (hr : 0 <= r /\ r <= 100000) : aA Tryz.prog 145 [.agg [.g (.int .i64 (x)), .g (.int .i64 (y))], .one (.g (.int .i64 r))] (.t (.one (.g (.bool (rz x y r))))) := by
  have hq := (N7 _ _).1 hp
  refine ak Tryz.func145 rfl (by rw [Tryz.ntmps145]; simp) ?_
  simp only [Tryz.ntmps145, zM, PT.tv, au, Nat.zero_add, Nat.reduceAdd]
  repeat' (first
 | ((with_reducible show AW _ _ _ _); first
 | (with_reducible first | refine aS (fun K hK => ?_) | refine aT ?_)
 | (first
 | (with_reducible first | refine aP 0 [0,1] ?_ | refine aP 1 [1,2] ?_)))
 | (((with_reducible refine Need.mk ?_)); focus (first | exact True.intro | (intro _; (with_reducible assumption))))
 | (with_reducible refine aJ ?_)
 | ((with_reducible show aQ _ _ _ _ _ _ _ _ _ _); first
 | (refine aF (k := 144) jT (yG _ _) ?_ ?_))
 | ((with_reducible show bG _ _ _ _ _ _ _ _ _ _); first
 | (refine aO (k := 144) jT (fun hg => yG _ _) ?_ ?_))
 | ((fail_if_success (with_reducible show AW _ _ _ _)); simp (maxSteps := 2000000) only [go_sem, reduceIte, reduceCtorEq, xA, xL, xD, xE, xM, xS, xB, Tryz.f145])
 | ((fail_if_success (with_reducible show AW _ _ _ _)); simp (disch := omega) only [aV, ig, iq])
 | ((with_reducible refine hK _ ?_); clear hK K))
  all_goals ((unfold rz; simp_all; done))
theorem ZP (f : aZ) (ho : f.Ok) : aA Tryz.prog 133 [.agg [.g (.int .i64 (f.id)), .g (.int .i64 (f.kd)), .g (.int .i64 (f.x)), .g (.int .i64 (f.y)), .g (.int .i64 (f.r)), .lst 2 f.n (eO f.P), .g (.int .i64 (f.d)), .g (.int .i64 (f.s)), .lst 6 f.m (eO f.S)]] (.t (.one (.g (.bool (jv f))))) := by
  refine ak Tryz.func133 rfl (by rw [Tryz.ntmps133]; simp) ?_
  simp only [Tryz.ntmps133, zM, PT.tv, au, Nat.zero_add, Nat.reduceAdd]
  repeat' (first
 | ((with_reducible show AW _ _ _ _); first
 | (with_reducible first | refine aS (fun K hK => ?_) | refine aI ?_ | refine aX ?_ | refine aT ?_ | refine aC ?_ | refine aB ?_)
 | (first
 | (with_reducible first | refine aP 0 [0] ?_ | refine aP 1 [1] ?_ | refine aP 2 [] ?_ | refine aP 3 [1] ?_ | refine aP 4 [1,42] ?_ | refine aP 5 [1,42] ?_ | refine aP 6 [1,42] ?_ | refine aP 7 [1,42] ?_ | refine aP 8 [1,42] ?_ | refine aP 9 [1,42] ?_ | refine aP 10 [1] ?_ | refine aP 11 [1] ?_ | refine aP 12 [] ?_ | refine aP 13 [1] ?_ | refine aP 14 [1] ?_ | refine aP 15 [] ?_)))
 | ((first | (with_reducible refine And.intro ?_ ?_) | (with_reducible refine Need.mk ?_)); focus (first | exact True.intro | (intro _; (with_reducible assumption)) | (simp; done)))
 | (with_reducible refine aJ ?_)
 | ((with_reducible show bL _ _ _ _ _ _); first
 | ((with_reducible refine aM ?_ ?_) <;> (intro hc; (try simp only [zB, zC, reduceCtorEq] at hc); (try (exfalso; contradiction)))))
 | ((with_reducible show aQ _ _ _ _ _ _ _ _ _ _); first
 | (refine aF (k := 144) jT (yG _ _) ?_ ?_)
 | (refine aF (k := 170) Ka (amR _ _ ho.n) ?_ ?_))
 | ((with_reducible show bG _ _ _ _ _ _ _ _ _ _); first
 | (refine aO (k := 169) Jt (fun hg => aeU _ _ _ (by assumption) (by omega)) ?_ ?_)
 | (refine aO (k := 171) IK (fun hg => aiQ _ _ (by have := ho.m; omega)) ?_ ?_))
 | ((fail_if_success (with_reducible show AW _ _ _ _)); simp (maxSteps := 2000000) only [go_sem, reduceIte, reduceCtorEq, xA, xL, xD, xE, xM, xS, xB, Tryz.f133, Go.Sea.nZ])
 | ((with_reducible refine hK _ ?_); clear hK K)
 | (with_reducible apply_assumption -exfalso only [*]))
  all_goals (first | exact aiv (by unfold IB; omega) | exact ajr (by omega) (by omega) | exact ahW (by omega) | exact ag6 (by unfold IB; omega) (by omega) | exact aht (by unfold IB; omega) (by omega) (by omega) | exact af4 (by unfold IB; omega) (by omega))
theorem aed (f g : aZ) (ho : f.Ok) (ho2 : g.Ok) : aA Tryz.prog 108 [.agg [.g (.int .i64 (f.id)), .g (.int .i64 (f.kd)), .g (.int .i64 (f.x)), .g (.int .i64 (f.y)), .g (.int .i64 (f.r)), .lst 2 f.n (eO f.P), .g (.int .i64 (f.d)), .g (.int .i64 (f.s)), .lst 6 f.m (eO f.S)], .agg [.g (.int .i64 (g.id)), .g (.int .i64 (g.kd)), .g (.int .i64 (g.x)), .g (.int .i64 (g.y)), .g (.int .i64 (g.r)), .lst 2 g.n (eO g.P), .g (.int .i64 (g.d)), .g (.int .i64 (g.s)), .lst 6 g.m (eO g.S)]] (.t (.one (.g (.bool (uG f g))))) := by
  refine ak Tryz.func108 rfl (by rw [Tryz.ntmps108]; simp) ?_
  simp only [Tryz.ntmps108, zM, PT.tv, au, Nat.zero_add, Nat.reduceAdd]
  repeat' (first
 | ((with_reducible show AW _ _ _ _); first
 | (with_reducible first | refine aS (fun K hK => ?_) | refine aT ?_)
 | (first
 | (with_reducible first | refine aP 0 [0,1] ?_ | refine aP 1 [2,3] ?_)))
 | (((with_reducible refine Need.mk ?_)); focus ((intro _; (with_reducible assumption))))
 | (with_reducible refine aJ ?_)
 | ((with_reducible show bG _ _ _ _ _ _ _ _ _ _); first
 | (refine aO (k := 146) Kw (fun hg => ahy _ _ _ _ ho.n ho2.n) ?_ ?_)
 | (refine aO (k := 147) Ja (fun hg => abP _ _ _ _ ho.m ho2.m) ?_ ?_))
 | ((fail_if_success (with_reducible show AW _ _ _ _)); simp (maxSteps := 2000000) only [go_sem, reduceIte, reduceCtorEq, xA, xL, xD, xE, xM, xS, xB, Tryz.f108, Go.Sea.nZ])
 | ((with_reducible refine hK _ ?_); clear hK K))
  all_goals ((unfold uG; refine Bool.eq_iff_iff.2 ?_; simp only [decide_eq_true_eq, Bool.and_eq_true, beq_iff_eq]; constructor <;> (intro h; simp_all; done)))
theorem JG (f g : aZ) (ho : f.Ok) (ho2 : g.Ok) : aA Tryz.prog 64 [.agg [.g (.int .i64 (f.id)), .g (.int .i64 (f.kd)), .g (.int .i64 (f.x)), .g (.int .i64 (f.y)), .g (.int .i64 (f.r)), .lst 2 f.n (eO f.P), .g (.int .i64 (f.d)), .g (.int .i64 (f.s)), .lst 6 f.m (eO f.S)], .agg [.g (.int .i64 (g.id)), .g (.int .i64 (g.kd)), .g (.int .i64 (g.x)), .g (.int .i64 (g.y)), .g (.int .i64 (g.r)), .lst 2 g.n (eO g.P), .g (.int .i64 (g.d)), .g (.int .i64 (g.s)), .lst 6 g.m (eO g.S)]] (.t (.one (.g (.bool (uG f g))))) := by
  refine ak Tryz.func64 rfl (by rw [Tryz.ntmps64]; simp) ?_
  simp only [Tryz.ntmps64, zM, PT.tv, au, Nat.zero_add, Nat.reduceAdd]
  repeat' (first
 | ((with_reducible show AW _ _ _ _); first
 | (with_reducible first | refine aS (fun K hK => ?_) | refine aI ?_ | refine aT ?_ | refine aC ?_)
 | (first
 | (with_reducible first | refine aP 0 [0,1] ?_ | refine aP 1 [2,3] ?_ | refine aP 2 [] ?_ | refine aP 3 [2,3] ?_)))
 | ((first | (with_reducible refine And.intro ?_ ?_) | (with_reducible refine Need.mk ?_)); focus (first | exact True.intro | (intro _; (with_reducible assumption)) | (simp; done)))
 | (with_reducible refine aJ ?_)
 | ((with_reducible show bL _ _ _ _ _ _); first
 | ((with_reducible refine aM ?_ ?_) <;> (intro hc; (try simp only [zB, zC, reduceCtorEq] at hc); (try (exfalso; contradiction)))))
 | ((with_reducible show aQ _ _ _ _ _ _ _ _ _ _); first
 | (refine aF (k := 112) Ie (adb _ _ _ _ ho.n ho2.n) ?_ ?_))
 | ((with_reducible show bG _ _ _ _ _ _ _ _ _ _); first
 | (refine aO (k := 113) IY (fun hg => U7 _ _ _ _ ho.m ho2.m) ?_ ?_))
 | ((fail_if_success (with_reducible show AW _ _ _ _)); simp (maxSteps := 2000000) only [go_sem, reduceIte, reduceCtorEq, xA, xL, xD, xE, xM, xS, xB, Tryz.f64, Go.Sea.nZ])
 | ((with_reducible refine hK _ ?_); clear hK K))
  all_goals (first | (unfold uG; refine Bool.eq_iff_iff.2 ?_; simp only [decide_eq_true_eq, Bool.and_eq_true, beq_iff_eq, reduceCtorEq, false_iff]; omega) | (unfold uG; rw [decide_eq_true (by omega)]; rfl))
end Go.Proofs.YtcfechepbamhkaaGreat
