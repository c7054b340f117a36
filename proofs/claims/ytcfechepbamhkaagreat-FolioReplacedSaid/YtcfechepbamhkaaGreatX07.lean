/- Part 7 of 17: contracts of functions and plain laws for the root text. No condition. -/
import Derived.Test.YtcfechepbamhkaaGreatX01
import Derived.Test.YtcfechepbamhkaaGreatX02
import Derived.Test.YtcfechepbamhkaaGreatX03
import Derived.Test.YtcfechepbamhkaaGreatX04
import Derived.Test.YtcfechepbamhkaaGreatX05
import Derived.Test.YtcfechepbamhkaaGreatX06
set_option linter.unusedVariables false
set_option linter.unusedSimpArgs false
set_option maxRecDepth 100000
set_option maxHeartbeats 4000000
namespace Go.Proofs.YtcfechepbamhkaaGreat
open Go.RowKit Go.Sea
open Nat renaming reduceAdd -> xA, reduceLT -> xL, reduceLeDiff -> xD, reduceEqDiff -> xE, reduceMul -> xM, reduceSub -> xS, reduceBEq -> xB
theorem agY : boD Tryz.prog 216 = false := by kernel_rfl
theorem aok : boD Tryz.prog 4 = true := by kernel_rfl
theorem ajg : eqD Tryz.prog 216 = some (true, [.int .i64, .int .i64]) := by kernel_rfl
theorem Xq : aM Tryz.prog 233 = true := by kernel_rfl
theorem Yx : aM Tryz.prog 234 = true := by kernel_rfl
theorem vv : aM Tryz.prog 240 = true := by kernel_rfl
theorem Jc : aM Tryz.prog 241 = true := by kernel_rfl
theorem aiU : fM Tryz.prog 216 = true := by kernel_rfl
theorem anw : fM Tryz.prog 60 = true := by kernel_rfl
theorem Yr : dF Tryz.prog 216 0 = some 0 := by kernel_rfl
theorem aaR : dF Tryz.prog 216 1 = some 1 := by kernel_rfl
theorem aa1 : dA Tryz.prog 60 0 = some (0, 1) := by kernel_rfl
theorem ae6 : dA Tryz.prog 60 1 = some (1, 1) := by kernel_rfl
theorem ag8 : lD Tryz.prog 216 = some (true, 2) := by kernel_rfl
theorem aj6 : fO Tryz.prog 216 = some [.iv (.g (.int .i64 0)), .iv (.g (.int .i64 0))] := by kernel_rfl
attribute [go_sem] agY aok ajg Xq Yx vv Jc aiU anw Yr aaR aa1 ae6 ag8 aj6
theorem Mi {M x y u v : Int} (h : (-M <= x /\ x <= M) /\ (-M <= y /\ y <= M)) (g : (-M <= u /\ u <= M) /\ (-M <= v /\ v <= M)) : (-(M * M) <= x * v /\ x * v <= M * M) /\ (-(M * M) <= y * u /\ y * u <= M * M) /\ (-(M * M) <= x * u /\ x * u <= M * M) /\ (-(M * M) <= y * v /\ y * v <= M * M) :=
  ⟨nD h.1 g.2, nD h.2 g.1, nD h.1 g.1, nD h.2 g.2⟩
def f2 (a b : Int) (i o : Nat) : IV := .g (.int .i64 (if i = 0 then a else b))
theorem Vu (x y u v : Int) (h1 : -4000000000000 <= x * v /\ x * v <= 4000000000000) (h2 : -4000000000000 <= y * u /\ y * u <= 4000000000000) : aA Tryz.prog 241 [.agg [.g (.int .i64 (x)), .g (.int .i64 (y))], .agg [.g (.int .i64 (u)), .g (.int .i64 (v))]] (.t (.one (.g (.int .i64 (x * v - y * u))))) := by
  refine ak Tryz.func241 rfl (by rw [Tryz.ntmps241]; simp) ?_
  simp only [Tryz.ntmps241, zM, PT.tv, au, Nat.zero_add, Nat.reduceAdd]
  repeat' (first
 | ((with_reducible show AW _ _ _ _); first
 | (with_reducible first | refine aS (fun K hK => ?_) | refine aT ?_)
 | (first
 | (with_reducible first | refine aP 0 [0,1] ?_ | refine aP 1 [2,3] ?_)))
 | (with_reducible refine aK ?_)
 | ((fail_if_success (with_reducible show AW _ _ _ _)); simp (maxSteps := 2000000) only [go_sem, reduceIte, reduceCtorEq, xA, xL, xD, xE, xM, xS, xB, Tryz.f241])
 | ((fail_if_success (with_reducible show AW _ _ _ _)); simp (disch := omega) only [aY, iP, iX])
 | ((with_reducible refine hK _ ?_); clear hK K))
theorem Gt (x y : Int) : aA Tryz.prog 240 [.agg [.g (.int .i64 (x)), .g (.int .i64 (y))]] (.t (.one (.g (.bool (decide (0 < y \/ (y = 0 /\ 0 < x))))))) := by
  refine ak Tryz.func240 rfl (by rw [Tryz.ntmps240]; simp) ?_
  simp only [Tryz.ntmps240, zM, PT.tv, au, Nat.zero_add, Nat.reduceAdd]
  repeat' (first
 | ((with_reducible show AW _ _ _ _); first
 | (with_reducible first | refine aS (fun K hK => ?_) | refine aT ?_)
 | (first
 | (with_reducible first | refine aP 0 [0] ?_ | refine aP 1 [1] ?_)))
 | (((with_reducible refine And.intro ?_ ?_)); focus (first | (simp; done) | (simp; omega)))
 | (with_reducible refine aK ?_)
 | ((fail_if_success (with_reducible show AW _ _ _ _)); simp (maxSteps := 2000000) only [go_sem, reduceIte, reduceCtorEq, xA, xL, xD, xE, xM, xS, xB, Tryz.f240])
 | ((with_reducible refine hK _ ?_); clear hK K))
  all_goals ((try refine Bool.eq_iff_iff.2 ?_); (simp only [Bool.and_eq_true, Bool.or_eq_true, Bool.not_eq_true', decide_eq_true_eq, decide_eq_false_iff_not, bne_iff_ne, beq_iff_eq, ne_eq, ge_iff_le, gt_iff_lt, cond_eq_ite, iff_self, eq_self]; done))
def EI (x y : Int) : Bool := decide (((-1000000 <= x /\ x <= 1000000) /\ (-1000000 <= y /\ y <= 1000000)) /\ ¬ (x = 0 /\ y = 0))
theorem af5 (x y : Int) : aA Tryz.prog 225 [.agg [.g (.int .i64 (x)), .g (.int .i64 (y))]] (.t (.one (.g (.bool (EI x y))))) := by
  refine ak Tryz.func225 rfl (by rw [Tryz.ntmps225]; simp) ?_
  simp only [Tryz.ntmps225, zM, PT.tv, au, Nat.zero_add, Nat.reduceAdd]
  repeat' (first
 | ((with_reducible show AW _ _ _ _); first
 | (with_reducible first | refine aS (fun K hK => ?_) | refine aT ?_)
 | (first
 | (with_reducible first | refine aP 0 [0] ?_ | refine aP 1 [1] ?_)))
 | (with_reducible refine aK ?_)
 | ((fail_if_success (with_reducible show AW _ _ _ _)); simp (maxSteps := 2000000) only [go_sem, reduceIte, reduceCtorEq, xA, xL, xD, xE, xM, xS, xB, Tryz.f225, EI])
 | ((with_reducible refine hK _ ?_); clear hK K))
  all_goals ((refine Bool.eq_iff_iff.2 ?_; simp only [Bool.and_eq_true, Bool.not_eq_true', Bool.and_eq_false_iff, beq_eq_false_iff_ne, decide_eq_true_eq, ne_eq, ge_iff_le]; omega))
def upB (x y : Int) : Bool := decide (0 < y \/ (y = 0 /\ 0 < x))
def sK (x y u v : Int) : Int := if upB x y = upB u v then - TW (x * v - y * u) else if upB x y = true then -1 else 1
theorem ai2 (x y u v : Int) : sK x y u v = -1 \/ sK x y u v = 0 \/ sK x y u v = 1 := by
  unfold sK
  have := af3 (x * v - y * u)
  split <;> first | omega | (split <;> omega)
def Xt (fx fy tx ty vx vy : Int) : Bool := if sK fx fy tx ty = -1 then decide (sK fx fy vx vy <= 0) && !decide (sK tx ty vx vy <= 0) else if sK fx fy tx ty = 1 then decide (sK fx fy vx vy <= 0) || !decide (sK tx ty vx vy <= 0) else true
theorem LX (x y u v : Int) (h1 : -4000000000000 <= x * v /\ x * v <= 4000000000000) (h2 : -4000000000000 <= y * u /\ y * u <= 4000000000000) : aA Tryz.prog 226 [.agg [.g (.int .i64 (x)), .g (.int .i64 (y))], .agg [.g (.int .i64 (u)), .g (.int .i64 (v))]] (.t (.one (.g (.int .i64 (sK x y u v))))) := by
  refine ak Tryz.func226 rfl (by rw [Tryz.ntmps226]; simp) ?_
  simp only [Tryz.ntmps226, zM, PT.tv, au, Nat.zero_add, Nat.reduceAdd]
  repeat' (first
 | ((with_reducible show AW _ _ _ _); first
 | (with_reducible first | refine aS (fun K hK => ?_) | refine aI ?_ | refine aT ?_ | refine aC ?_ | refine aB ?_)
 | (first
 | (with_reducible refine aP 0 [0,1] ?_)
 | ((with_reducible refine aR (c := Code.region 1 _ true) [2,3] ?_); (with_reducible refine aD ?_ ?_ ?_ ?_); (focus kernel_rfl); (focus kernel_rfl); (focus kernel_rfl))
 | (with_reducible first | refine aP 2 [2] ?_ | refine aP 3 [] ?_ | refine aP 4 [] ?_ | refine aP 5 [2,3] ?_ | refine aP 6 [] ?_ | refine aP 7 [2,3] ?_ | refine aP 8 [] ?_ | refine aP 9 [] ?_)))
 | ((first | (with_reducible refine And.intro ?_ ?_) | (with_reducible refine Need.mk ?_)); focus (exact True.intro))
 | (with_reducible refine aK ?_)
 | ((with_reducible show bL _ _ _ _ _ _); first
 | ((with_reducible refine aN ?_ ?_) <;> (intro hc; (try simp only [zB, zC, reduceCtorEq] at hc); (try (exfalso; contradiction)))))
 | ((with_reducible refine And.intro ?_ ?_); focus ((with_reducible show iL _ _ _ = true); kernel_rfl))
 | ((with_reducible show aZ _ _ _ _ _ _ _ _ _ _); first
 | (refine aG (k := 240) vv (Gt x y) ?_ ?_)
 | (refine aG (k := 241) Jc (Vu x y u v h1 h2) ?_ ?_))
 | ((with_reducible show eP _ _ _ _ _ _ _ _ _ _ _ _ _); first
 | (refine bR (k := 240) vv (Gt x y) ?_ ?_)
 | (refine bR (k := 240) vv (Gt u v) ?_ ?_))
 | ((fail_if_success (with_reducible show AW _ _ _ _)); simp (maxSteps := 2000000) only [go_sem, reduceIte, reduceCtorEq, xA, xL, xD, xE, xM, xS, xB, Tryz.f226])
 | ((with_reducible refine hK _ ?_); clear hK K))
  all_goals (first | (unfold sK upB TW; simp_all; done) | (rw [sK, if_neg (by simp only [upB]; assumption), if_pos (by simp only [upB, decide_eq_true_eq]; assumption)]) | (rw [sK, if_neg (by simp only [upB]; assumption), if_neg (by simp only [upB, decide_eq_true_eq]; assumption)]) | (rw [sK, if_pos (by simp only [upB]; assumption)]; unfold TW; (repeat' split) <;> omega))
end Go.Proofs.YtcfechepbamhkaaGreat
set_option maxRecDepth 100000
set_option maxHeartbeats 4000000
namespace Go.Proofs.YtcfechepbamhkaaGreat
open Go.RowKit Go.Sea
open Nat renaming reduceAdd -> xA, reduceLT -> xL, reduceLeDiff -> xD, reduceEqDiff -> xE, reduceMul -> xM, reduceSub -> xS, reduceBEq -> xB
theorem ams : Ii Tryz.prog 62 = none := by kernel_rfl
theorem I6 : aM Tryz.prog 204 = true := by kernel_rfl
theorem AX : aM Tryz.prog 205 = true := by kernel_rfl
theorem Uv : aM Tryz.prog 213 = true := by kernel_rfl
theorem YQ : aM Tryz.prog 214 = true := by kernel_rfl
theorem DF : aM Tryz.prog 225 = true := by kernel_rfl
theorem vI : aM Tryz.prog 226 = true := by kernel_rfl
theorem Zi : aM Tryz.prog 232 = true := by kernel_rfl
theorem alB : yu Tryz.prog 62 = some true := by kernel_rfl
theorem YD : dF Tryz.prog 174 0 = some 0 := by kernel_rfl
theorem Vv : dF Tryz.prog 174 1 = some 2 := by kernel_rfl
theorem Xy : dF Tryz.prog 174 2 = some 4 := by kernel_rfl
theorem aas : dF Tryz.prog 174 3 = some 5 := by kernel_rfl
theorem amQ : rP Tryz.prog 62 = some (6, 48, 174) := by kernel_rfl
theorem ag2 : lD Tryz.prog 174 = some (true, 6) := by kernel_rfl
theorem aiK : fO Tryz.prog 174 = some [.iv (.g (.int .i64 0)), .iv (.g (.int .i64 0)), .iv (.g (.int .i64 0)), .iv (.g (.int .i64 0)), .iv (.g (.int .i64 0)), .iv (.g (.int .i64 0))] := by kernel_rfl
attribute [go_sem] ams I6 AX Uv YQ DF vI Zi alB YD Vv Xy aas amQ ag2 aiK
def SC (a b c d k r : Int) : Bool := decide (EI a b = true /\ EI c d = true /\ (1 <= k /\ k <= 3) /\ (1 <= r /\ r <= 3000000))
def ajQ (S : Nat -> Nat -> Int) (i : Nat) : Bool := SC (S i 0) (S i 1) (S i 2) (S i 3) (S i 4) (S i 5)
def Qw (S : Nat -> Nat -> Int) (i j : Nat) : Bool := Xt (S i 0) (S i 1) (S i 2) (S i 3) (S j 0) (S j 1)
def K3 (S : Nat -> Nat -> Int) (i : Nat) : Prop := ajQ S i = true /\ ∀ j, j < i -> Qw S i j = false /\ Qw S j i = false
instance (S : Nat -> Nat -> Int) (i : Nat) : Decidable (K3 S i) := by unfold K3; infer_instance
def vL (n : Nat) (S : Nat -> Nat -> Int) : Bool := decide (n <= 12 /\ ∀ i, i < n -> K3 S i)
theorem afh {n : Nat} {S : Nat -> Nat -> Int} {i : Nat} (hi : (i : Int) < n) (h : SC (S i 0) (S i 1) (S i 2) (S i 3) (S i 4) (S i 5) = false) : false = vL n S :=
  (decide_eq_false fun g => by have := (g.2 i (by omega)).1; unfold ajQ at this; rw [h] at this; cases this).symm
theorem acA {n : Nat} {S : Nat -> Nat -> Int} {i j : Nat} (hi : (i : Int) < n) (hj : (j : Int) < i) (h : Xt (S i 0) (S i 1) (S i 2) (S i 3) (S j 0) (S j 1) = true) : false = vL n S :=
  (decide_eq_false fun g => by have := ((g.2 i (by omega)).2 j (by omega)).1; unfold Qw at this; rw [h] at this; cases this).symm
theorem ade {n : Nat} {S : Nat -> Nat -> Int} {i j : Nat} (hi : (i : Int) < n) (hj : (j : Int) < i) (h : Xt (S j 0) (S j 1) (S j 2) (S j 3) (S i 0) (S i 1) = true) : false = vL n S :=
  (decide_eq_false fun g => by have := ((g.2 i (by omega)).2 j (by omega)).2; unfold Qw at this; rw [h] at this; cases this).symm
theorem ajp {n i : Nat} {S : Nat -> Nat -> Int} (hi : i <= n) (h : (n : Int) <= i) (g : ∀ i', i' < i -> K3 S i') : decide ((n : Int) <= 12) = vL n S := by
  unfold vL; refine decide_eq_decide.2 ⟨fun k => ⟨by omega, fun j hj => g j (by omega)⟩, fun k => by omega⟩
theorem Pz {a b c d k r : Int} (h : SC a b c d k r = true) : EI a b = true := (of_decide_eq_true h).1
theorem agh {a b c d k r : Int} (h : SC a b c d k r = true) : EI c d = true := (of_decide_eq_true h).2.1
theorem VT (x y u v p q z w : Int) (d1 : EI x y = true) (d2 : EI u v = true) (d3 : EI z w = true) : aA Tryz.prog 205 [.agg [.g (.int .i64 (x)), .g (.int .i64 (y)), .g (.int .i64 (u)), .g (.int .i64 (v)), .g (.int .i64 (p)), .g (.int .i64 (q))], .agg [.g (.int .i64 (z)), .g (.int .i64 (w))]] (.t (.one (.g (.bool (Xt x y u v z w))))) := by
  simp only [EI, decide_eq_true_eq] at d1 d2 d3
  have k1 := Mi (M := 1000000) d1.1 d2.1
  have k2 := Mi (M := 1000000) d1.1 d3.1
  have k3 := Mi (M := 1000000) d2.1 d3.1
  have v1 := ai2 x y u v
  refine ak Tryz.func205 rfl (by rw [Tryz.ntmps205]; simp) ?_
  simp only [Tryz.ntmps205, zM, PT.tv, au, Nat.zero_add, Nat.reduceAdd]
  repeat' (first
 | ((with_reducible show AW _ _ _ _); first
 | (with_reducible first | refine aS (fun K hK => ?_) | refine aI ?_ | refine aT ?_ | refine aC ?_ | refine aB ?_)
 | (first
 | (with_reducible refine aP 0 [0,1] ?_)
 | ((with_reducible refine aR (c := Code.region 1 _ true) [2,3] ?_); (with_reducible refine aD ?_ ?_ ?_ ?_); (focus kernel_rfl); (focus kernel_rfl); (focus kernel_rfl))
 | ((with_reducible refine aR (c := Code.region 2 _ true) [3,5,6] ?_); (with_reducible refine aD ?_ ?_ ?_ ?_); (focus kernel_rfl); (focus kernel_rfl); (focus kernel_rfl))
 | (with_reducible first | refine aP 3 [5,6,7,8] ?_ | refine aP 4 [7,8,23] ?_ | refine aP 5 [7,8] ?_ | refine aP 6 [7,8,23] ?_ | refine aP 7 [7,8] ?_ | refine aP 8 [] ?_)))
 | ((first | (with_reducible refine And.intro ?_ ?_) | (with_reducible refine Need.mk ?_)); focus (first | exact True.intro | (simp; done)))
 | (with_reducible refine aK ?_)
 | ((with_reducible show bL _ _ _ _ _ _); first
 | ((with_reducible refine aN ?_ ?_) <;> (intro hc; (try simp only [zB, zC, reduceCtorEq] at hc); (try (exfalso; contradiction)))))
 | ((with_reducible refine And.intro ?_ ?_); focus ((with_reducible show iL _ _ _ = true); kernel_rfl))
 | ((with_reducible show aZ _ _ _ _ _ _ _ _ _ _); (refine aG (k := 226) vI (LX x y u v (by omega) (by omega)) ?_ ?_))
 | ((with_reducible show eP _ _ _ _ _ _ _ _ _ _ _ _ _); first
 | (refine bR (k := 226) vI (LX x y z w (by omega) (by omega)) ?_ ?_)
 | (refine bR (k := 226) vI (LX u v z w (by omega) (by omega)) ?_ ?_))
 | ((fail_if_success (with_reducible show AW _ _ _ _)); simp (maxSteps := 2000000) only [go_sem, reduceIte, reduceCtorEq, xA, xL, xD, xE, xM, xS, xB, Tryz.f205])
 | ((with_reducible refine hK _ ?_); clear hK K))
  all_goals ((unfold Xt; simp_all; done))
theorem anS (a b c d k r : Int) : aA Tryz.prog 204 [.agg [.g (.int .i64 (a)), .g (.int .i64 (b)), .g (.int .i64 (c)), .g (.int .i64 (d)), .g (.int .i64 (k)), .g (.int .i64 (r))]] (.t (.one (.g (.bool (SC a b c d k r))))) := by
  refine ak Tryz.func204 rfl (by rw [Tryz.ntmps204]; simp) ?_
  simp only [Tryz.ntmps204, zM, PT.tv, au, Nat.zero_add, Nat.reduceAdd]
  repeat' (first
 | ((with_reducible show AW _ _ _ _); first
 | (with_reducible first | refine aS (fun K hK => ?_) | refine aT ?_)
 | (first
 | (with_reducible first | refine aP 0 [0] ?_ | refine aP 1 [1] ?_)))
 | (((with_reducible refine Need.mk ?_)); focus (first | exact True.intro | (intro _; (with_reducible assumption))))
 | (with_reducible refine aK ?_)
 | ((with_reducible show aZ _ _ _ _ _ _ _ _ _ _); (refine aG (k := 225) DF (af5 a b) ?_ ?_))
 | ((with_reducible show bM _ _ _ _ _ _ _ _ _ _); (refine aV (k := 225) DF (fun hg => af5 c d) ?_ ?_))
 | ((fail_if_success (with_reducible show AW _ _ _ _)); simp (maxSteps := 2000000) only [go_sem, reduceIte, reduceCtorEq, xA, xL, xD, xE, xM, xS, xB, Tryz.f204])
 | ((with_reducible refine hK _ ?_); clear hK K))
  all_goals ((unfold SC; refine Bool.eq_iff_iff.2 ?_; simp only [Bool.and_eq_true, decide_eq_true_eq, ge_iff_le, and_assoc]; done))
theorem aiF (n : Nat) (S : Nat -> Nat -> Int) (hn : n <= 9223372036854775807) : aA Tryz.prog 171 [.one (.lst 6 n (eX S))] (.t (.one (.g (.bool (vL n S))))) := by
  refine ak Tryz.func171 rfl (by rw [Tryz.ntmps171]; simp) ?_
  simp only [Tryz.ntmps171, zM, PT.tv, au, Nat.zero_add, Nat.reduceAdd]
  repeat' (first
 | ((with_reducible show AW _ _ _ _); first
 | (with_reducible first | refine aS (fun K hK => ?_) | refine aI ?_ | refine aX ?_ | refine aT ?_ | refine aC ?_ | refine aB ?_)
 | (first
 | (with_reducible first | refine aP 0 [0] ?_ | refine aP 1 [0] ?_ | refine aP 2 [0,7,8,9] ?_ | refine aP 3 [0,7,8,9] ?_ | refine aP 4 [0,3,4,7,8,9] ?_ | refine aP 5 [] ?_ | refine aP 6 [0,3,4,7,8,9] ?_ | refine aP 7 [0,4,7,8,9,19,20,21] ?_ | refine aP 8 [0,4,7,8,9,19,20,21] ?_ | refine aP 9 [0,4,6,7,8,9,19,20,21] ?_ | refine aP 10 [] ?_ | refine aP 11 [0,4,7,8,9,19,20,21] ?_ | refine aP 12 [0,7,8,9] ?_ | refine aP 13 [0] ?_))
 | ((with_reducible show AW _ (Code.loop _) _ _); first
 | ((with_reducible refine aL (c := (Code.seq (Code.region 2 _ _) _)) (ι := Nat) [0,7,8] (fun i => [(9, iA .i64 (i : Int))]) (fun i => []) (fun i => i <= n /\ (∀ i', i' < i -> K3 S i')) (fun i => n - i) 0 ?lg2 ?l12 ?l22 ?li2 ?lr2); (case' lg2 => rintro i _); (case' li2 => try (exact ⟨Nat.zero_le _, fun i hi => absurd hi (Nat.not_lt_zero _)⟩)); (case' lr2 => rintro i ⟨hi, hai⟩ KR hR2; simp only [bG, dL, hset, lk, if_true, if_false, xE, reduceIte, zN]))
 | ((with_reducible refine aL (c := (Code.seq (Code.region 7 _ _) _)) (ι := Nat) [0,4,7,8,9,19,20] (fun j => [(21, iA .i64 (j : Int))]) (fun j => []) (fun j => j <= i /\ ajQ S i = true /\ (∀ j', j' < j -> Qw S i j' = false /\ Qw S j' i = false)) (fun j => i - j) 0 ?lg7 ?l17 ?l27 ?li7 ?lr7); (case' lg7 => rintro j _); (case' li7 => try (exact ⟨Nat.zero_le _, by assumption, fun i hi => absurd hi (Nat.not_lt_zero _)⟩)); (case' lr7 => rintro j ⟨hj, hsi, haj⟩ KR hR7; simp only [bG, dL, hset, lk, if_true, if_false, xE, reduceIte, zN]))))
 | ((first | (with_reducible refine And.intro ?_ ?_) | (with_reducible refine Need.mk ?_)); focus (first | exact True.intro | omega | (intro _; (with_reducible assumption)) | (simp; done)))
 | (with_reducible refine aK ?_)
 | ((with_reducible show bL _ _ _ _ _ _); first
 | ((with_reducible refine aN ?_ ?_) <;> (intro hc; (try simp only [zB, zC, reduceCtorEq] at hc); (try (exfalso; contradiction)))))
 | ((with_reducible show aZ _ _ _ _ _ _ _ _ _ _); first
 | (refine aG (k := 204) I6 (anS _ _ _ _ _ _) ?_ ?_)
 | (refine aG (k := 205) AX (VT _ _ _ _ _ _ _ _ (Pz hsi) (agh hsi) (Pz (hai _ (by omega)).1)) ?_ ?_))
 | ((with_reducible show bM _ _ _ _ _ _ _ _ _ _); (refine aV (k := 205) AX (fun hg => VT _ _ _ _ _ _ _ _ (Pz (hai _ (by omega)).1) (agh (hai _ (by omega)).1) (Pz hsi)) ?_ ?_))
 | ((with_reducible refine hR2 _ (i + 1) ?_); (try clear hR2 KR))
 | ((with_reducible refine hR7 _ (j + 1) ?_); (try clear hR7 KR))
 | ((with_reducible refine Told.mk ?_); simp only [go_sem, reduceIte, reduceCtorEq, xA, xL, xD, xE, xM, xS, xB, eX] <;> ((((try simp (disch := omega) only [aY, Int.natCast_add, Int.cast_ofNat_Int, and_true, true_and, and_self]); (repeat' (first | omega | (with_reducible refine And.intro ?_ ?_) | (exact all_succ (by assumption) (by assumption)) | ((exact all_succ (by assumption) ⟨by assumption, fun j hj => haj j (by omega)⟩)))); done))))
 | ((fail_if_success (with_reducible show AW _ _ _ _)); simp (maxSteps := 2000000) only [go_sem, reduceIte, reduceCtorEq, xA, xL, xD, xE, xM, xS, xB, Tryz.f171, eX])
 | ((with_reducible refine hK _ ?_); clear hK K)
 | (with_reducible apply_assumption -exfalso only [*]))
  all_goals (first | exact afh (by assumption) (by assumption) | exact Or.elim (by assumption) (acA (by omega) (by omega)) (ade (by omega) (by omega)) | exact ajp (by assumption) (by assumption) (by assumption))
end Go.Proofs.YtcfechepbamhkaaGreat
set_option maxRecDepth 100000
set_option maxHeartbeats 4000000
namespace Go.Proofs.YtcfechepbamhkaaGreat
open Go.RowKit Go.Sea
open Nat renaming reduceAdd -> xA, reduceLT -> xL, reduceLeDiff -> xD, reduceEqDiff -> xE, reduceMul -> xM, reduceSub -> xS, reduceBEq -> xB
theorem aie : Ii Tryz.prog 209 = none := by kernel_rfl
theorem amJ : Ii Tryz.prog 36 = none := by kernel_rfl
theorem KN : aM Tryz.prog 221 = true := by kernel_rfl
theorem J7 : aM Tryz.prog 222 = true := by kernel_rfl
theorem WU : aM Tryz.prog 228 = true := by kernel_rfl
theorem ZG : aM Tryz.prog 229 = true := by kernel_rfl
theorem Xo : aM Tryz.prog 230 = true := by kernel_rfl
theorem T9 : aM Tryz.prog 242 = true := by kernel_rfl
theorem agS : yu Tryz.prog 209 = some true := by kernel_rfl
theorem ank : yu Tryz.prog 36 = some true := by kernel_rfl
theorem akp : rP Tryz.prog 209 = some (2, 16, 60) := by kernel_rfl
theorem alW : rP Tryz.prog 36 = some (1, 8, 3) := by kernel_rfl
theorem an8 : fO Tryz.prog 3 = some [.iv (.g (.int .i64 0))] := by kernel_rfl
attribute [go_sem] aie amJ KN J7 WU ZG Xo T9 agS ank akp alW an8
def orV (a b : Int) : Int := if a = 0 then b else a
def Vl (x y u v : Int) : Int := orV (if x < u then -1 else if u < x then 1 else 0) (if y < v then -1 else if v < y then 1 else 0)
theorem Ug (a b : Int) (o : Nat) : f2 a b 0 o = .g (.int .i64 a) := rfl
theorem Wd (a b : Int) (o : Nat) : f2 a b 1 o = .g (.int .i64 b) := rfl
theorem O5 (x y u v : Int) : (Vl x y u v >= 0) ↔ ¬ (x < u \/ (x = u /\ y < v)) := by
  unfold Vl orV
  repeat' split
  all_goals omega
theorem an4 (a b : Int) : aA Tryz.prog 221 [.one (.lst 1 2 (f2 a b))] (.t (.one (.g (.int .i64 (orV a b))))) := by
  refine ak Tryz.func221 rfl (by rw [Tryz.ntmps221]; simp) ?_
  simp only [Tryz.ntmps221, zM, PT.tv, au, Nat.zero_add, Nat.reduceAdd]
  repeat' (first
 | ((with_reducible show AW _ _ _ _); first
 | (with_reducible first | refine aS (fun K hK => ?_) | refine aI ?_ | refine aX ?_ | refine aT ?_ | refine aC ?_ | refine aB ?_)
 | (first
 | (with_reducible first | refine aP 0 [0] ?_ | refine aP 1 [0] ?_ | refine aP 2 [0,3] ?_ | refine aP 3 [3,6,7,8] ?_ | refine aP 4 [3,6,7,8] ?_ | refine aP 5 [3,5,6,7,8] ?_ | refine aP 6 [5] ?_ | refine aP 7 [3,6,7,8] ?_ | refine aP 8 [3] ?_))
 | ((with_reducible show AW _ (Code.loop _) _ _); first
 | ((with_reducible refine aL (c := (Code.seq (Code.region 3 _ _) _)) (ι := Nat) [3,6,7] (fun i => [(8, iA .i64 (i : Int))]) (fun i => []) (fun i => i <= 2 /\ (0 < i -> a = 0) /\ (1 < i -> b = 0)) (fun i => 2 - i) 0 ?lg3 ?l13 ?l23 ?li3 ?lr3); (case' lg3 => rintro i _); (case' li3 => try (exact ⟨by omega, by omega, by omega⟩)); (case' lr3 => rintro i ⟨hi, hx1, hx2⟩ KR hR3; (rcases (by omega : i = 0 \/ i = 1 \/ i = 2) with hz | hz | hz <;> subst hz); simp only [bG, dL, hset, lk, if_true, if_false, xE, reduceIte, zN, Ug, Wd]))))
 | (((with_reducible refine And.intro ?_ ?_)); focus (omega))
 | (with_reducible refine aK ?_)
 | ((with_reducible show bL _ _ _ _ _ _); first
 | ((with_reducible refine aN ?_ ?_) <;> (intro hc; (try simp only [zB, zC, reduceCtorEq] at hc); (try (exfalso; contradiction)))))
 | ((with_reducible refine hR3 _ 1 ?_); (try clear hR3 KR); (with_reducible refine Told.mk ?_); simp only [go_sem, reduceIte, reduceCtorEq, xA, xL, xD, xE, xM, xS, xB, Ug, Wd]; ((try simp (disch := omega) only [aY, Int.natCast_add, Int.cast_ofNat_Int, and_true, true_and, and_self]); (repeat' (omega )); done))
 | ((with_reducible refine hR3 _ 2 ?_); (try clear hR3 KR); (with_reducible refine Told.mk ?_); simp only [go_sem, reduceIte, reduceCtorEq, xA, xL, xD, xE, xM, xS, xB, Ug, Wd]; (((try simp (disch := omega) only [aY, Int.natCast_add, Int.cast_ofNat_Int, and_true, true_and, and_self]); (repeat' (omega )); done)))
 | ((with_reducible refine Told.mk ?_); simp only [go_sem, reduceIte, reduceCtorEq, xA, xL, xD, xE, xM, xS, xB, Ug, Wd] <;> ((((try simp (disch := omega) only [aY, Int.natCast_add, Int.cast_ofNat_Int, and_true, true_and, and_self]); (repeat' (exact True.intro )); done))))
 | ((fail_if_success (with_reducible show AW _ _ _ _)); simp (maxSteps := 2000000) only [go_sem, reduceIte, reduceCtorEq, xA, xL, xD, xE, xM, xS, xB, Tryz.f221, Ug, Wd])
 | ((with_reducible refine hK _ ?_); clear hK K)
 | (with_reducible apply_assumption -exfalso only [*]))
  all_goals ((unfold orV; first | (rw [if_pos (by omega)]; omega) | (rw [if_neg (by omega)]) | (split <;> omega)))
theorem aoJ (a b : Int) {F : Nat -> Nat -> IV} (hF : ∀ i o, i < 2 -> o < 1 -> (F i o).eqv (f2 a b i o)) : aA Tryz.prog 221 [.one (.lst 1 2 F)] (.t (.one (.g (.int .i64 (orV a b))))) :=
  (an4 a b).eqv ⟨⟨rfl, rfl, hF⟩, trivial⟩ (PV.bn _)
theorem adF (x y u v : Int) : aA Tryz.prog 199 [.agg [.g (.int .i64 (x)), .g (.int .i64 (y))], .agg [.g (.int .i64 (u)), .g (.int .i64 (v))]] (.t (.one (.g (.int .i64 (Vl x y u v))))) := by
  refine ak Tryz.func199 rfl (by rw [Tryz.ntmps199]; simp) ?_
  simp only [Tryz.ntmps199, zM, PT.tv, au, Nat.zero_add, Nat.reduceAdd]
  repeat' (first
 | ((with_reducible show eP _ _ _ _ _ _ _ _ _ _ _ _ _); first
 | ((refine bR (k := 221) KN (aoJ (if x < u then -1 else if u < x then 1 else 0) (if y < v then -1 else if v < y then 1 else 0) ?_) ?_ ?_); (focus (intro i o hi ho; rcases i with _ | _ | i <;> first | omega | (rcases o with _ | o <;> first | omega | exact IV.bn _))))
 | (refine bR (k := 166) qg (G5 x u) ?_ ?_)
 | (refine bR (k := 166) qg (G5 y v) ?_ ?_))
 | ((with_reducible show AW _ _ _ _); first
 | (with_reducible first | refine aS (fun K hK => ?_) | refine aT ?_)
 | (first
 | (with_reducible refine aP 0 [0,1] ?_)
 | ((with_reducible refine aR (c := Code.region 1 _ true) [2,3] ?_); (with_reducible refine aD ?_ ?_ ?_ ?_); (focus kernel_rfl); (focus kernel_rfl); (focus kernel_rfl))))
 | ((first | (with_reducible refine And.intro ?_ ?_) | (with_reducible refine Need.mk ?_)); focus (exact True.intro))
 | (with_reducible refine aK ?_)
 | ((with_reducible refine And.intro ?_ ?_); focus ((with_reducible show iL _ _ _ = true); kernel_rfl))
 | ((fail_if_success (with_reducible show AW _ _ _ _)); simp (maxSteps := 2000000) only [go_sem, reduceIte, reduceCtorEq, xA, xL, xD, xE, xM, xS, xB, Tryz.f199])
 | ((with_reducible refine hK _ ?_); clear hK K))
  all_goals (rfl)
theorem acp (ax ay bx by' cx cy : Int) : aA Tryz.prog 200 [.agg [.g (.int .i64 (ax)), .g (.int .i64 (ay))], .agg [.g (.int .i64 (bx)), .g (.int .i64 (by'))], .agg [.g (.int .i64 (cx)), .g (.int .i64 (cy))]] (.t (.one (.g (.int .i64 (tvV ax ay bx by' cx cy))))) := by
  refine ak Tryz.func200 rfl (by rw [Tryz.ntmps200]; simp) ?_
  simp only [Tryz.ntmps200, zM, PT.tv, au, Nat.zero_add, Nat.reduceAdd]
  repeat' (first
 | ((with_reducible show AW _ _ _ _); first
 | (with_reducible first | refine aS (fun K hK => ?_) | refine aT ?_)
 | (first
 | (with_reducible first | refine aP 0 [0,1,2] ?_ | refine aP 1 [3,4,5] ?_ | refine aP 2 [7] ?_)))
 | (((with_reducible refine Need.mk ?_)); focus (exact True.intro))
 | (with_reducible refine aK ?_)
 | ((with_reducible show aZ _ _ _ _ _ _ _ _ _ _); first
 | (refine aG (k := 222) J7 (ah8 _ _ _ _ _ _) ?_ ?_))
 | ((fail_if_success (with_reducible show AW _ _ _ _)); simp (maxSteps := 2000000) only [go_sem, reduceIte, reduceCtorEq, xA, xL, xD, xE, xM, xS, xB, Tryz.f200])
 | ((with_reducible refine hK _ ?_); clear hK K))
def Et (n : Nat) (i : Int) : Nat := ((i + n) % n).toNat
theorem Dv (n : Nat) (P : Nat -> Nat -> Int) (i : Int) (hn : 0 < n /\ n <= 1000) (hi : -1 <= i /\ i <= 1000) : aA Tryz.prog 201 [.one (.lst 2 n (eX P)), .one (.g (.int .i64 (i)))] (.t (.agg [.g (.int .i64 (P (Et n i) 0)), .g (.int .i64 (P (Et n i) 1))])) := by
  have hm : 0 <= (i + (n : Int)) % (n : Int) /\ (i + (n : Int)) % (n : Int) < (n : Int) := ⟨Int.emod_nonneg _ (by omega), Int.emod_lt_of_pos _ (by omega)⟩
  refine ak Tryz.func201 rfl (by rw [Tryz.ntmps201]; simp) ?_
  simp only [Tryz.ntmps201, zM, PT.tv, au, Nat.zero_add, Nat.reduceAdd]
  repeat' (first
 | ((with_reducible show AW _ _ _ _); first
 | (with_reducible first | refine aS (fun K hK => ?_) | refine aT ?_)
 | (first
 | (with_reducible first | refine aP 0 [0,1] ?_ | refine aP 1 [0,1,4] ?_)))
 | (((with_reducible refine And.intro ?_ ?_)); focus (first | (with_reducible assumption) | omega))
 | (with_reducible refine aK ?_)
 | ((fail_if_success (with_reducible show AW _ _ _ _)); simp (maxSteps := 2000000) only [go_sem, reduceIte, reduceCtorEq, xA, xL, xD, xE, xM, xS, xB, Tryz.f201, eX])
 | ((fail_if_success (with_reducible show AW _ _ _ _)); simp (disch := omega) only [aY, iP, iX])
 | ((with_reducible refine hK _ ?_); clear hK K))
  all_goals (exact ⟨rfl, rfl⟩)
end Go.Proofs.YtcfechepbamhkaaGreat
namespace Go.Proofs.YtcfechepbamhkaaGreat
open Go.RowKit Go.Sea
open Nat renaming reduceAdd -> xA, reduceLT -> xL, reduceLeDiff -> xD, reduceEqDiff -> xE, reduceMul -> xM, reduceSub -> xS, reduceBEq -> xB
theorem akj : Ii Tryz.prog 236 = some (2, 2) := by kernel_rfl
theorem vF : aM Tryz.prog 201 = true := by kernel_rfl
theorem BK : aM Tryz.prog 223 = true := by kernel_rfl
theorem JC : aM Tryz.prog 238 = true := by kernel_rfl
theorem aiB : fM Tryz.prog 236 = true := by kernel_rfl
theorem Y4 : dA Tryz.prog 236 0 = some (0, 2) := by kernel_rfl
theorem XC : dA Tryz.prog 236 1 = some (2, 2) := by kernel_rfl
theorem ai9 : rP Tryz.prog 236 = none := by kernel_rfl
theorem ajk : lD Tryz.prog 209 = some (false, 1) := by kernel_rfl
theorem aji : lD Tryz.prog 236 = some (true, 4) := by kernel_rfl
theorem akh : fO Tryz.prog 236 = some [.iv (.g (.int .i64 0)), .iv (.g (.int .i64 0)), .iv (.g (.int .i64 0)), .iv (.g (.int .i64 0))] := by kernel_rfl
attribute [go_sem] akj vF BK aiB Y4 XC ai9 ajk aji akh
def nx (n i : Nat) : Nat := Et n ((i : Int) + 1)
theorem Jm {n i : Nat} (h : 0 < n) : nx n i < n := by
  unfold nx Et
  have h1 := Int.emod_nonneg ((i : Int) + 1 + n) (show (n : Int) ≠ 0 by omega)
  have h2 := Int.emod_lt_of_pos ((i : Int) + 1 + n) (show (0 : Int) < n by omega)
  omega
def twT (P : Nat -> Nat -> Int) (n i : Nat) : Int := P i 0 * P (nx n i) 1 - P i 1 * P (nx n i) 0
def Wz (P : Nat -> Nat -> Int) (n : Nat) : Nat -> Int
  | 0 => 0
  | i + 1 => Wz P n i + twT P n i
theorem Fu (P : Nat -> Nat -> Int) (n i : Nat) : Wz P n (i + 1) = Wz P n i + (P i 0 * P (nx n i) 1 - P i 1 * P (nx n i) 0) := rfl
theorem YL {P : Nat -> Nat -> Int} {n i j : Nat} (h : qE P n) (hi : i < n) (hj : j < n) : (-1000000000000 <= P i 0 * P j 1 /\ P i 0 * P j 1 <= 1000000000000) /\ (-1000000000000 <= P i 1 * P j 0 /\ P i 1 * P j 0 <= 1000000000000) := by
  have a := Kj.1 (h i hi)
  have b := Kj.1 (h j hj)
  have h1 := nD (M := 1000000) a.1 b.2
  have h2 := nD (M := 1000000) a.2 b.1
  omega
theorem YX {P : Nat -> Nat -> Int} {n : Nat} (h : qE P n) : ∀ i, i <= n -> -(2000000000000 * (i : Int)) <= Wz P n i /\ Wz P n i <= 2000000000000 * (i : Int)
  | 0, _ => by simp [Wz]
  | i + 1, hi => by
    have := YX h i (by omega)
    have t := YL h (show i < n by omega) (Jm (n := n) (i := i) (by omega))
    rw [Fu]; omega
set_option maxRecDepth 100000 in
set_option maxHeartbeats 4000000 in
theorem afr (n : Nat) (P : Nat -> Nat -> Int) (hn : 0 < n /\ n <= 1000) (hp : qE P n) : aA Tryz.prog 203 [.one (.lst 2 n (eX P))] (.t (.one (.g (.int .i64 (Wz P n n))))) := by
  have hz : True := trivial
  refine ak Tryz.func203 rfl (by rw [Tryz.ntmps203]; simp) ?_
  simp only [Tryz.ntmps203, zM, PT.tv, au, Nat.zero_add, Nat.reduceAdd]
  repeat' (first
 | ((with_reducible show AW _ _ _ _); first
 | (with_reducible first | refine aS (fun K hK => ?_) | refine aI ?_ | refine aX ?_ | refine aT ?_ | refine aC ?_ | refine aB ?_)
 | ((refine eT (k := 238) rfl Tryz.func238 rfl JC (by rw [Tryz.ntmps238]; simp) ?_ ?_ (fun l hlne A B hA hB => ?_)); (focus (simp (maxSteps := 2000000) only [go_sem, reduceIte, reduceCtorEq, xA, xL, xD, xE, xM, xS, xB, Tryz.f203, Tryz.f238, Tryz.f223, eX, Fu, nx, hz, Int.toNat_one, Int.reduceToNat]; try exact True.intro)); (focus (simp (maxSteps := 2000000) only [go_sem, reduceIte, reduceCtorEq, xA, xL, xD, xE, xM, xS, xB, Tryz.f203, Tryz.f238, Tryz.f223, eX, Fu, nx, hz, Int.toNat_one, Int.reduceToNat]; try exact True.intro)); simp only [Tryz.ntmps238, List.map_cons, List.map_nil, LV.tv, au, yV, Nat.zero_add, Nat.reduceAdd]; clear hlne)
 | (with_reducible refine vN (by assumption) ?_)
 | (first
 | (with_reducible first | refine aP (ops := #[⟨some 2, _, _, _, _, _⟩]) 0 [0,9] ?_ | refine aP (ops := #[⟨some 5, _, _, _, _, _⟩, _, _]) 0 [0,1] ?_ | refine aP (ops := #[⟨some 1, _, _, _, _, _⟩, _]) 0 [0] ?_ | refine aP 1 [0,1,5,6,7,9] ?_ | refine aP (ops := #[⟨some 6, _, _, _, _, _⟩, _]) 2 [0,3,9] ?_ | refine aP (ops := #[⟨some 9, _, _, _, _, _⟩, _, _, _, _, _]) 2 [0,1,5,6,7] ?_ | refine aP 3 [3,9] ?_)
 | ((with_reducible refine aR (c := Code.region 3 _ true) [0,1,3,4,5,6,7] ?_); (with_reducible refine l5 8 ?_ ?_ ?_ ?_ ?_); (focus kernel_rfl); (focus kernel_rfl); (focus kernel_rfl); (focus kernel_rfl))
 | (with_reducible first | refine aP (ops := #[⟨some 10, _, _, _, _, _⟩, _, _, _, _, _, _, _, _, _, _, _, _, _, _, _, _, _]) 4 [3,5,9] ?_ | refine aP (ops := #[⟨some 22, _, _, _, _, _⟩, _]) 4 [0,1,5,6,7] ?_ | refine aP 5 [3] ?_))
 | ((with_reducible show AW _ (Code.loop _) _ _); first
 | ((with_reducible refine aL (c := (Code.seq (Code.region 1 _ _) _)) (ι := Nat) [0,1,5,6] (fun i => [(7, iA .i64 (i : Int))]) (fun i => [(0, [.iv (.g (.int .i64 (Wz P n i)))])]) (fun i => i <= n) (fun i => n - i) 0 ?lg1 ?l11 ?l21 ?li1 ?lr1); (case' lg1 => rintro i _); (case' li1 => try exact Nat.zero_le _); (case' lr1 => rintro i hi KR hR1; (have hb := YX hp i (by omega); have ht : i < n -> _ := fun hi' => YL hp hi' (Jm (n := n) (i := i) (by omega)); simp only [nx] at ht; have ht2 := ht); simp only [bG, dL, hset, lk, if_true, if_false, xE, reduceIte, zN, Fu, nx, hz, Int.toNat_one, Int.reduceToNat]))))
 | ((first | (with_reducible refine And.intro ?_ ?_) | (with_reducible refine Need.mk ?_)); focus (first | exact True.intro | omega | (simp (disch := omega) only [Bool.and_eq_true, Bool.or_eq_true, decide_eq_true_eq, bne_iff_ne, ne_eq] at *; omega)))
 | (with_reducible refine aK ?_)
 | ((with_reducible show bL _ _ _ _ _ _); first
 | ((with_reducible refine aN ?_ ?_) <;> (intro hc; (try simp only [zB, zC, reduceCtorEq] at hc); (try (exfalso; contradiction)))))
 | ((with_reducible show ∀ _ : AS -> Prop, _ -> _); intro K hK)
 | ((with_reducible refine And.intro ?_ ?_); focus (((with_reducible show zA _ _ _ _ = true); kernel_rfl)))
 | ((with_reducible show aZ _ _ _ _ _ _ _ _ _ _); ((refine bW (k := 223) Tryz.func223 rfl BK (by rw [Tryz.ntmps223]; simp) ?_ ?_ (fun K hK => ?_)); (focus (exact True.intro)); (focus ((simp [iZ]; done))); simp only [Tryz.ntmps223, List.map_cons, List.map_nil, List.nil_append, List.cons_append, List.append_nil, LV.tv, au, Nat.zero_add, Nat.reduceAdd]))
 | ((with_reducible show eP _ _ _ _ _ _ _ _ _ _ _ _ _); first
 | (refine bR (k := 201) vF (Dv n P _ hn (by omega)) ?_ ?_))
 | ((with_reducible refine hR1 _ (i + 1) ?_); (try clear hR1 KR))
 | ((with_reducible refine Told.mk ?_); simp only [go_sem, reduceIte, reduceCtorEq, xA, xL, xD, xE, xM, xS, xB, eX, Fu, nx, hz, Int.toNat_one, Int.reduceToNat] <;> ((((try simp (disch := omega) only [aY, Int.natCast_add, Int.cast_ofNat_Int, and_true, true_and, and_self]); (repeat' (first | omega | rfl)); done))))
 | ((fail_if_success (with_reducible show AW _ _ _ _)); simp (maxSteps := 2000000) only [go_sem, reduceIte, reduceCtorEq, xA, xL, xD, xE, xM, xS, xB, Tryz.f203, Tryz.f238, Tryz.f223, eX, Fu, nx, hz, Int.toNat_one, Int.reduceToNat])
 | ((fail_if_success (with_reducible show AW _ _ _ _)); simp (disch := omega) only [aY, iP, iX])
 | ((with_reducible show aZ _ _ _ _ _ _ (.yld _) _ _ _); (refine lG (by simp only [Fg, if_true]; exact rfl) ?_ (by simp) ?_ ?_ (fun K hK => ?_)); (focus (exact True.intro)); (focus (simp [nk])); (focus ((simp [iZ]; done))); simp only [jm, gf, if_true, Nat.reduceAdd])
 | ((with_reducible refine hK _ ?_); clear hK K)
 | (with_reducible apply_assumption -exfalso only [*]))
  all_goals (((obtain rfl : i = n := by omega); rfl))
end Go.Proofs.YtcfechepbamhkaaGreat
namespace Go.Proofs.YtcfechepbamhkaaGreat
open Go.RowKit Go.Sea
open Nat renaming reduceAdd -> xA, reduceLT -> xL, reduceLeDiff -> xD, reduceEqDiff -> xE, reduceMul -> xM, reduceSub -> xS, reduceBEq -> xB
theorem JW : aM Tryz.prog 224 = true := by kernel_rfl
theorem aow : lD Tryz.prog 4 = some (false, 1) := by kernel_rfl
theorem aoU : fO Tryz.prog 4 = some [.iv (.g (.bool false))] := by kernel_rfl
attribute [go_sem] JW aow aoU
def smP (P : Nat -> Nat -> Int) (n i k : Nat) : Prop := ((k : Int) <= (i : Int) + 1 \/ ((i : Int) = 0 /\ (k : Int) = (n : Int) - 1)) \/ mvB (P i 0) (P i 1) (P (nx n i) 0) (P (nx n i) 1) (P k 0) (P k 1) (P (nx n k) 0) (P (nx n k) 1) = false
instance (P : Nat -> Nat -> Int) (n i k : Nat) : Decidable (smP P n i k) := by unfold smP; infer_instance
def Qy (P : Nat -> Nat -> Int) (n : Nat) : Bool := decide (∀ i, i < n -> ∀ k, k < n -> smP P n i k)
theorem ai6 {P : Nat -> Nat -> Int} {n i k : Nat} (h2 : mvB (P i 0) (P i 1) (P (Et n ((i : Int) + 1)) 0) (P (Et n ((i : Int) + 1)) 1) (P k 0) (P k 1) (P (Et n ((k : Int) + 1)) 0) (P (Et n ((k : Int) + 1)) 1) = true) (h1 : (i : Int) + 1 < k /\ ((i : Int) ≠ 0 \/ (k : Int) ≠ (n : Int) - 1)) (hi : (i : Int) < n) (hk : (k : Int) < n) : false = Qy P n := by
  refine (decide_eq_false fun g => ?_).symm
  have t := g i (by omega) k (by omega)
  unfold smP nx at t
  rw [h2] at t
  rcases t with t | t
  · omega
  · cases t
theorem ajM {P : Nat -> Nat -> Int} {n i : Nat} (h : (n : Int) <= i) (g : ∀ i', i' < i -> ∀ k', k' < n -> smP P n i' k') : true = Qy P n := (decide_eq_true fun j hj k hk => g j (by omega) k hk).symm
set_option maxRecDepth 100000 in
set_option maxHeartbeats 4000000 in
theorem VA (n : Nat) (P : Nat -> Nat -> Int) (hn : 0 < n /\ n <= 1000) : aA Tryz.prog 202 [.one (.lst 2 n (eX P))] (.t (.one (.g (.bool (Qy P n))))) := by
  have hz : True := trivial
  refine ak Tryz.func202 rfl (by rw [Tryz.ntmps202]; simp) ?_
  simp only [Tryz.ntmps202, zM, PT.tv, au, Nat.zero_add, Nat.reduceAdd]
  repeat' (first
 | ((with_reducible show AW _ _ _ _); first
 | (with_reducible first | refine aS (fun K hK => ?_) | refine aI ?_ | refine aX ?_ | refine aT ?_ | refine aC ?_ | refine aB ?_)
 | ((refine eT (k := 238) rfl Tryz.func238 rfl JC (by rw [Tryz.ntmps238]; simp) ?_ ?_ (fun l hlne A B hA hB => ?_)); (focus (simp (maxSteps := 2000000) only [go_sem, reduceIte, reduceCtorEq, xA, xL, xD, xE, xM, xS, xB, Tryz.f202, Tryz.f238, Tryz.f223, eX, nx, hz, Int.toNat_one, Int.reduceToNat]; try exact True.intro)); (focus (simp (maxSteps := 2000000) only [go_sem, reduceIte, reduceCtorEq, xA, xL, xD, xE, xM, xS, xB, Tryz.f202, Tryz.f238, Tryz.f223, eX, nx, hz, Int.toNat_one, Int.reduceToNat]; try exact True.intro)); simp only [Tryz.ntmps238, List.map_cons, List.map_nil, LV.tv, au, yV, Nat.zero_add, Nat.reduceAdd]; clear hlne)
 | (with_reducible refine vN (by assumption) ?_)
 | (first
 | (with_reducible first | refine aP 0 [0,1,14,15,18,19] ?_ | refine aP (ops := #[⟨some 10, _, _, _, _, _⟩, _, _, _]) 1 [1,2,14,15,18,19] ?_ | refine aP (ops := #[⟨some 8, _, _, _, _, _⟩]) 1 [0,1,5,6,7] ?_ | refine aP (ops := #[⟨some 3, _, _, _, _, _⟩, _]) 1 [1] ?_ | refine aP (ops := #[⟨some 12, _, _, _, _, _⟩, _]) 2 [1,2,3,14,15,18,19] ?_ | refine aP (ops := #[⟨some 9, _, _, _, _, _⟩, _, _, _, _, _]) 2 [0,1,5,6,7] ?_ | refine aP 3 [1,2,3,14,15,18,19] ?_)
 | ((with_reducible refine aR (c := Code.region 3 _ true) [0,1,3,4,5,6,7] ?_); (with_reducible refine l5 8 ?_ ?_ ?_ ?_ ?_); (focus kernel_rfl); (focus kernel_rfl); (focus kernel_rfl); (focus kernel_rfl))
 | (with_reducible first | refine aP (ops := #[⟨some 5, _, _, _, _, _⟩, _]) 4 [1,2,3,4,14,15,18,19] ?_ | refine aP (ops := #[⟨some 22, _, _, _, _, _⟩, _]) 4 [0,1,5,6,7] ?_ | refine aP 5 [1,2,3,4,5,14,15,18,19] ?_ | refine aP 6 [1,2,3,4,5,14,15,18,19] ?_ | refine aP 7 [1,2,3,4,5,6,14,15,18,19] ?_ | refine aP 8 [1,2,3,4,5,6,7,14,15,18,19] ?_ | refine aP 9 [1,2,3,4,5,7,14,15,18,19] ?_ | refine aP 10 [1,2,3,4,5,8,14,15,18,19] ?_ | refine aP 11 [2] ?_ | refine aP 12 [2] ?_))
 | ((with_reducible show AW _ (Code.loop _) _ _); first
 | ((have hO := hai; with_reducible refine aL (c := (Code.seq (Code.region 1 _ _) _)) (ι := Nat) [0,1,5,6] (fun k => [(7, iA .i64 (k : Int))]) (fun k => []) (fun k => k <= n /\ (∀ k', k' < k -> smP P n i k')) (fun k => n - k) 0 ?lg1b ?l11b ?l21b ?li1b ?lr1b); (case' lg1b => rintro k _); (case' li1b => try (exact ⟨Nat.zero_le _, fun i hi => absurd hi (Nat.not_lt_zero _)⟩)); (case' lr1b => rintro k ⟨hk, hak⟩ KR hR1b; simp only [bG, dL, hset, lk, if_true, if_false, xE, reduceIte, zN, nx, hz, Int.toNat_one, Int.reduceToNat]))
 | ((with_reducible refine aL (c := (Code.seq (Code.region 1 _ _) _)) (ι := Nat) [0,1,5,6] (fun i => [(7, iA .i64 (i : Int))]) (fun i => []) (fun i => i <= n /\ (∀ i', i' < i -> ∀ k', k' < n -> smP P n i' k')) (fun i => n - i) 0 ?lg1a ?l11a ?l21a ?li1a ?lr1a); (case' lg1a => rintro i _); (case' li1a => try (exact ⟨Nat.zero_le _, fun i hi => absurd hi (Nat.not_lt_zero _)⟩)); (case' lr1a => rintro i ⟨hi, hai⟩ KR hR1a; simp only [bG, dL, hset, lk, if_true, if_false, xE, reduceIte, zN, nx, hz, Int.toNat_one, Int.reduceToNat]))))
 | ((first | (with_reducible refine And.intro ?_ ?_) | (with_reducible refine Need.mk ?_)); focus (first | exact True.intro | omega | (simp (disch := omega) only [Bool.and_eq_true, Bool.or_eq_true, decide_eq_true_eq, bne_iff_ne, ne_eq] at *; omega) | (simp; done) | (simp; omega)))
 | (with_reducible refine aK ?_)
 | ((with_reducible show bL _ _ _ _ _ _); first
 | ((with_reducible refine aN ?_ ?_) <;> (intro hc; (try simp only [zB, zC, reduceCtorEq] at hc); (try (exfalso; contradiction)))))
 | ((with_reducible show ∀ _ : AS -> Prop, _ -> _); intro K hK)
 | ((with_reducible refine And.intro ?_ ?_); focus (((with_reducible show zA _ _ _ _ = true); kernel_rfl)))
 | ((with_reducible show aZ _ _ _ _ _ _ _ _ _ _); first
 | (refine aG (k := 224) JW (ahL _ _ _ _ _ _ _ _) ?_ ?_)
 | ((refine bW (k := 223) Tryz.func223 rfl BK (by rw [Tryz.ntmps223]; simp) ?_ ?_ (fun K hK => ?_)); (focus (exact True.intro)); (focus ((simp [iZ]; done))); simp only [Tryz.ntmps223, List.map_cons, List.map_nil, List.nil_append, List.cons_append, List.append_nil, LV.tv, au, Nat.zero_add, Nat.reduceAdd]))
 | ((with_reducible show eP _ _ _ _ _ _ _ _ _ _ _ _ _); first
 | (refine bR (k := 201) vF (Dv n P _ hn (by omega)) ?_ ?_))
 | ((with_reducible refine hR1b _ (k + 1) ?_); (try clear hR1b KR))
 | ((with_reducible refine hR1a _ (i + 1) ?_); (try clear hR1a KR))
 | ((with_reducible refine Told.mk ?_); simp only [go_sem, reduceIte, reduceCtorEq, xA, xL, xD, xE, xM, xS, xB, eX, nx, hz, Int.toNat_one, Int.reduceToNat] <;> (first | (((try simp (disch := omega) only [aY, Int.natCast_add, Int.cast_ofNat_Int, and_true, true_and, and_self]); (repeat' (first | omega | (with_reducible refine And.intro ?_ ?_) | ((exact all_succ (by assumption) (Or.inl (by omega)))) | ((exact all_succ (by assumption) (Or.inr (by assumption)))))); done)) | (((try simp (disch := omega) only [aY, Int.natCast_add, Int.cast_ofNat_Int, and_true, true_and, and_self]); (repeat' (first | omega | (with_reducible refine And.intro ?_ ?_) | ((exact all_succ (by assumption) (fun k' hk' => hak k' (by omega)))))); done))))
 | ((fail_if_success (with_reducible show AW _ _ _ _)); simp (maxSteps := 2000000) only [go_sem, reduceIte, reduceCtorEq, xA, xL, xD, xE, xM, xS, xB, Tryz.f202, Tryz.f238, Tryz.f223, eX, nx, hz, Int.toNat_one, Int.reduceToNat])
 | ((fail_if_success (with_reducible show AW _ _ _ _)); simp (disch := omega) only [aY, iP, iX])
 | ((with_reducible show aZ _ _ _ _ _ _ (.yld _) _ _ _); (refine lG (by simp only [Fg, if_true]; exact rfl) ?_ (by simp) ?_ ?_ (fun K hK => ?_)); (focus (exact True.intro)); (focus (simp [nk])); (focus ((simp [iZ]; done))); simp only [jm, gf, if_true, Nat.reduceAdd])
 | ((with_reducible refine hK _ ?_); clear hK K)
 | (with_reducible apply_assumption -exfalso only [*]))
  all_goals (first | exact ai6 (by assumption) (by assumption) (by assumption) (by assumption) | exact ajM (by assumption) (by assumption))
end Go.Proofs.YtcfechepbamhkaaGreat
namespace Go.Proofs.YtcfechepbamhkaaGreat
open Go.RowKit Go.Sea
open Nat renaming reduceAdd -> xA, reduceLT -> xL, reduceLeDiff -> xD, reduceEqDiff -> xE, reduceMul -> xM, reduceSub -> xS, reduceBEq -> xB
theorem YR : aM Tryz.prog 181 = true := by kernel_rfl
theorem Vt : aM Tryz.prog 208 = true := by kernel_rfl
theorem VY : aM Tryz.prog 209 = true := by kernel_rfl
theorem Wp : aM Tryz.prog 211 = true := by kernel_rfl
theorem ZH : aM Tryz.prog 212 = true := by kernel_rfl
attribute [go_sem] YR Vt VY Wp ZH
def ltI (P : Nat -> Nat -> Int) (i : Nat) : Prop := P 0 0 < P i 0 \/ (P 0 0 = P i 0 /\ P 0 1 < P i 1)
instance (P : Nat -> Nat -> Int) (i : Nat) : Decidable (ltI P i) := by unfold ltI; infer_instance
def abu (P : Nat -> Nat -> Int) (i : Nat) : Prop := gL (P i 0) (P i 1) = true /\ (0 < i -> ltI P i)
instance (P : Nat -> Nat -> Int) (i : Nat) : Decidable (abu P i) := by unfold abu; infer_instance
def Uo (n i : Nat) : Nat := (((i : Int) + 2) % (n : Int)).toNat
def trI (P : Nat -> Nat -> Int) (n i : Nat) : Int := Xn (P i 0) (P i 1) (P (nx n i) 0) (P (nx n i) 1) (P (Uo n i) 0) (P (Uo n i) 1)
def zG (n : Nat) (P : Nat -> Nat -> Int) : Bool := decide ((3 <= n /\ n <= 24) /\ (∀ i, i < n -> abu P i) /\ (∀ i, i < n -> trI P n i ≠ 0) /\ Qy P n = true /\ 0 < Wz P n n)
theorem ahr {n : Nat} {P : Nat -> Nat -> Int} (h : (n : Int) < 3 \/ (n : Int) > 24) : false = zG n P := (decide_eq_false fun g => by omega).symm
theorem agN {n i : Nat} {P : Nat -> Nat -> Int} (h : gL (P i 0) (P i 1) = false) (hi : (i : Int) < n) : false = zG n P :=
  (decide_eq_false fun g => by have := (g.2.1 i (by omega)).1; rw [h] at this; cases this).symm
theorem aiM {n i : Nat} {P : Nat -> Nat -> Int} (h : decide (P 0 0 < P i 0 \/ (P 0 0 = P i 0 /\ P 0 1 < P i 1)) = false) (h0 : (i : Int) > 0) (hi : (i : Int) < n) : false = zG n P :=
  (decide_eq_false fun g => by have := (g.2.1 i (by omega)).2 (by omega); unfold ltI at this; rw [decide_eq_false_iff_not] at h; exact h this).symm
theorem ah2 {n i : Nat} {P : Nat -> Nat -> Int} (h : trI P n i = 0) (hi : (i : Int) < n) : false = zG n P := (decide_eq_false fun g => g.2.2.1 i (by omega) h).symm
theorem amP {n i j : Nat} {P : Nat -> Nat -> Int} (hn : 3 <= n /\ n <= 24) (hi : (n : Int) <= i) (hj : (n : Int) <= j) (g : ∀ i', i' < i -> abu P i') (g2 : ∀ i', i' < j -> trI P n i' ≠ 0) : (Qy P n && decide (Wz P n n > 0)) = zG n P := by
  refine Bool.eq_iff_iff.2 ?_
  simp only [zG, Bool.and_eq_true, decide_eq_true_eq]
  exact ⟨fun h => ⟨hn, fun k hk => g k (by omega), fun k hk => g2 k (by omega), h.1, h.2⟩, fun h => ⟨h.2.2.2.1, h.2.2.2.2⟩⟩
end Go.Proofs.YtcfechepbamhkaaGreat
set_option maxRecDepth 100000
set_option maxHeartbeats 4000000
namespace Go.Proofs.YtcfechepbamhkaaGreat
open Go.RowKit Go.Sea
open Nat renaming reduceAdd -> xA, reduceLT -> xL, reduceLeDiff -> xD, reduceEqDiff -> xE, reduceMul -> xM, reduceSub -> xS, reduceBEq -> xB
theorem WL : aM Tryz.prog 197 = true := by kernel_rfl
theorem J9 : aM Tryz.prog 198 = true := by kernel_rfl
theorem Ku : aM Tryz.prog 199 = true := by kernel_rfl
theorem KW : aM Tryz.prog 200 = true := by kernel_rfl
theorem Kn : aM Tryz.prog 202 = true := by kernel_rfl
theorem JX : aM Tryz.prog 203 = true := by kernel_rfl
theorem KS : aM Tryz.prog 220 = true := by kernel_rfl
attribute [go_sem] J9 Ku KW Kn JX KS
def trJ (P : Nat -> Nat -> Int) (n i : Nat) : Int := tvV (P (Et n ((i : Int) - 1)) 0) (P (Et n ((i : Int) - 1)) 1) (P i 0) (P i 1) (P (Et n ((i : Int) + 1)) 0) (P (Et n ((i : Int) + 1)) 1)
theorem L6 {n i : Nat} (hi : i < n) : nx n i = if i + 1 = n then 0 else i + 1 := by
  unfold nx Et
  rw [Int.add_emod_right]
  split
  · rw [show (i : Int) + 1 = n by omega, Int.emod_self]; rfl
  · rw [Int.emod_eq_of_lt (by omega) (by omega)]; omega
theorem ML {n i : Nat} (hi : i < n) : Et n ((i : Int) - 1) = if i = 0 then n - 1 else i - 1 := by
  unfold Et
  split
  · rw [Int.emod_eq_of_lt (by omega) (by omega)]; omega
  · rw [Int.add_emod_right, Int.emod_eq_of_lt (by omega) (by omega)]; omega
theorem aa4 {n i : Nat} (hn : 3 <= n) (hi : i < n) : Uo n i = if i + 2 = n then 0 else if i + 1 = n then 1 else i + 2 := by
  unfold Uo
  split
  · rw [show (i : Int) + 2 = n by omega, Int.emod_self]; rfl
  · split
    · rw [show (i : Int) + 2 = 1 + n by omega, Int.add_emod_right, Int.emod_eq_of_lt (by omega) (by omega)]; rfl
    · rw [Int.emod_eq_of_lt (by omega) (by omega)]; omega
theorem Xx {P : Nat -> Nat -> Int} {n j : Nat} (hn : 3 <= n) (hp : qE P n) (hj : j < n) : trJ P n j = trI P n (Et n ((j : Int) - 1)) := by
  have e0 := ML hj
  have hi : Et n ((j : Int) - 1) < n := by rw [e0]; split <;> omega
  have e1 : nx n (Et n ((j : Int) - 1)) = j := by rw [L6 hi, e0]; split <;> (split <;> omega)
  have e2 : Uo n (Et n ((j : Int) - 1)) = nx n j := by
    rw [aa4 hn hi, L6 hj, e0]; repeat' split
    all_goals omega
  unfold trJ trI tvV
  rw [e1, e2]
  have e3 : Et n ((j : Int) + 1) = nx n j := rfl
  rw [e3, hp _ hi, hp _ hj, hp _ (Jm (n := n) (i := j) (by omega))]; rfl
theorem anK {n i : Nat} (hi : i < n) : Et n (((nx n i : Nat) : Int) - 1) = i := by
  have h := Jm (n := n) (i := i) (by omega)
  rw [ML h, L6 hi]; repeat' split
  all_goals omega
def amy (P : Nat -> Nat -> Int) (i : Nat) : Prop := 0 < i -> Vl (P 0 0) (P 0 1) (P i 0) (P i 1) < 0
theorem aho {P : Nat -> Nat -> Int} {n i j : Nat} (hn : 3 <= (n : Int) /\ (n : Int) <= 24) (haj : ∀ j', j' < j -> gL (P j' 0) (P j' 1) = true) (hj : (n : Int) <= j) (hi : (i : Int) < n) (h : ((i : Int) > 0 /\ Vl (P 0 0) (P 0 1) (P i 0) (P i 1) >= 0) \/ trJ P n i = 0) : false = zG n P := by
  rcases h with h | h
  · exact aiM (decide_eq_false ((O5 _ _ _ _).1 h.2)) h.1 hi
  · rw [Xx (by omega) (fun k hk => haj k (by omega)) (by omega)] at h
    refine ah2 h ?_
    have := ML (n := n) (i := i) (by omega)
    rw [this]; split <;> omega
theorem ahO {P : Nat -> Nat -> Int} {n i j : Nat} (hn : 3 <= (n : Int) /\ (n : Int) <= 24) (haj : ∀ j', j' < j -> gL (P j' 0) (P j' 1) = true) (hj : (n : Int) <= j) (hai : ∀ i', i' < i -> amy P i' /\ trJ P n i' ≠ 0) (hi : (n : Int) <= i) : (Qy P n && decide (Wz P n n > 0)) = zG n P := by
  have hp : qE P n := fun k hk => haj k (by omega)
  refine amP (i := n) (j := n) (by omega) (by omega) (by omega) (fun k hk => ⟨hp k hk, fun h0 => ?_⟩) (fun k hk => ?_)
  · have h1 := (hai k (by omega)).1 h0
    have h2 := O5 (P 0 0) (P 0 1) (P k 0) (P k 1)
    unfold ltI
    exact Classical.byContradiction fun g => by have := h2.2 g; omega
  · have hx := Jm (n := n) (i := k) (by omega)
    have h1 := (hai (nx n k) (by omega)).2
    rw [Xx (by omega) hp hx, anK hk] at h1
    exact h1
theorem anb (x y : Int) : aA Tryz.prog 197 [.agg [.g (.int .i64 (x)), .g (.int .i64 (y))]] (.t (.one (.g (.bool (!gL x y))))) := by
  refine ak Tryz.func197 rfl (by rw [Tryz.ntmps197]; simp) ?_
  simp only [Tryz.ntmps197, zM, PT.tv, au, Nat.zero_add, Nat.reduceAdd]
  repeat' (first
 | ((with_reducible show AW _ _ _ _); first
 | (with_reducible first | refine aS (fun K hK => ?_) | refine aT ?_)
 | (first
 | (with_reducible first | refine aP 0 [0] ?_ | refine aP 1 [1] ?_)))
 | (((with_reducible refine Need.mk ?_)); focus (exact True.intro))
 | (with_reducible refine aK ?_)
 | ((with_reducible show aZ _ _ _ _ _ _ _ _ _ _); first
 | (refine aG (k := 144) jV (yT _ _) ?_ ?_))
 | ((fail_if_success (with_reducible show AW _ _ _ _)); simp (maxSteps := 2000000) only [go_sem, reduceIte, reduceCtorEq, xA, xL, xD, xE, xM, xS, xB, Tryz.f197])
 | ((with_reducible refine hK _ ?_); clear hK K))
theorem alI (n : Nat) (P : Nat -> Nat -> Int) (hn : n <= 9223372036854775807) : aA Tryz.prog 170 [.one (.lst 2 n (eX P))] (.t (.one (.g (.bool (zG n P))))) := by
  refine ak Tryz.func170 rfl (by rw [Tryz.ntmps170]; simp) ?_
  simp only [Tryz.ntmps170, zM, PT.tv, au, Nat.zero_add, Nat.reduceAdd]
  repeat' (first
 | ((with_reducible show AW _ _ _ _); first
 | (with_reducible first | refine aS (fun K hK => ?_) | refine aI ?_ | refine aX ?_ | refine aT ?_ | refine aC ?_ | refine aB ?_)
 | (first
 | (with_reducible first | refine aP 0 [0,1] ?_ | refine aP (ops := #[⟨some 3, _, _, _, _, _⟩]) 1 [0] ?_ | refine aP (ops := #[⟨some 5, _, _, _, _, _⟩, _, _, _, _]) 1 [0,1] ?_ | refine aP (ops := #[⟨some 6, _, _, _, _, _⟩, _, _]) 1 [0,1] ?_ | refine aP (ops := #[⟨some 6, _, _, _, _, _⟩, _, _, _, _, _, _, _, _, _, _, _, _]) 2 [0,3] ?_ | refine aP (ops := #[⟨some 9, _, _, _, _, _⟩]) 2 [0,1,7,8] ?_ | refine aP (ops := #[⟨some 2, _, _, _, _, _⟩]) 3 [] ?_ | refine aP (ops := #[⟨some 10, _, _, _, _, _⟩, _]) 3 [0,1,7,8] ?_ | refine aP (ops := #[⟨some 19, _, _, _, _, _⟩, _]) 4 [0] ?_ | refine aP (ops := #[⟨some 11, _, _, _, _, _⟩, _, _, _, _, _]) 4 [0,1,5,7,8] ?_ | refine aP (ops := #[⟨some 20, _, _, _, _, _⟩, _, _]) 5 [4] ?_ | refine aP (ops := #[⟨some 17, _, _, _, _, _⟩, _]) 5 [5] ?_ | refine aP (ops := #[⟨some 23, _, _, _, _, _⟩]) 6 [4,21,22] ?_ | refine aP (ops := #[⟨some 18, _, _, _, _, _⟩, _]) 6 [0,1,7,8] ?_ | refine aP (ops := #[⟨some 24, _, _, _, _, _⟩, _]) 7 [4,21,22] ?_ | refine aP (ops := #[⟨some 4, _, _, _, _, _⟩]) 7 [] ?_)
 | ((with_reducible refine aR (c := Code.region 8 _ true) [4,5,21,22] ?_); (with_reducible refine aD ?_ ?_ ?_ ?_); (focus kernel_rfl); (focus kernel_rfl); (focus kernel_rfl))
 | (with_reducible first | refine aP 9 [] ?_ | refine aP 10 [4,21,22] ?_ | refine aP 11 [4] ?_))
 | ((with_reducible show AW _ (Code.loop _) _ _); first
 | ((with_reducible refine aL (c := (Code.seq (Code.region 2 _ _) _)) (ι := Nat) [0,1,7] (fun j => [(8, iA .i64 (j : Int))]) (fun j => []) (fun j => j <= n /\ (∀ j', j' < j -> gL (P j' 0) (P j' 1) = true)) (fun j => n - j) 0 ?lg2 ?l12 ?l22 ?li2 ?lr2); (case' lg2 => rintro j _); (case' li2 => try (exact ⟨Nat.zero_le _, fun i hi => absurd hi (Nat.not_lt_zero _)⟩)); (case' lr2 => rintro j ⟨hj, haj⟩ KR hR2; simp only [bG, dL, hset, lk, if_true, if_false, xE, reduceIte, zN]))
 | ((with_reducible refine aL (c := (Code.seq (Code.region 6 _ _) _)) (ι := Nat) [4,21] (fun i => [(22, iA .i64 (i : Int))]) (fun i => []) (fun i => i <= n /\ (∀ i', i' < i -> amy P i' /\ trJ P n i' ≠ 0)) (fun i => n - i) 0 ?lg6 ?l16 ?l26 ?li6 ?lr6); (case' lg6 => rintro i _); (case' li6 => try (exact ⟨Nat.zero_le _, fun i hi => absurd hi (Nat.not_lt_zero _)⟩)); (case' lr6 => rintro i ⟨hi, hai⟩ KR hR6; simp only [bG, dL, hset, lk, if_true, if_false, xE, reduceIte, zN]))))
 | ((first | (with_reducible refine And.intro ?_ ?_) | (with_reducible refine Need.mk ?_)); focus (first | exact True.intro | omega | (intro _; (with_reducible assumption)) | (intros; (repeat' (first | omega | (with_reducible refine And.intro ?_ ?_))); done) | (simp; done) | (simp; omega)))
 | (with_reducible refine aK ?_)
 | ((with_reducible show bL _ _ _ _ _ _); first
 | ((with_reducible refine aN ?_ ?_) <;> (intro hc; (try simp only [zB, zC, reduceCtorEq] at hc); (try (exfalso; omega)))))
 | ((with_reducible refine And.intro ?_ ?_); focus ((with_reducible show iL _ _ _ = true); kernel_rfl))
 | ((with_reducible show aZ _ _ _ _ _ _ _ _ _ _); first
 | (refine aG (k := 197) WL (anb _ _) ?_ ?_)
 | (refine aG (k := 202) Kn (VA n P (by omega)) ?_ ?_)
 | ((refine bW (k := 198) Tryz.func198 rfl J9 (by rw [Tryz.ntmps198]; simp) ?_ ?_ (fun K hK => ?_)); (focus ((simp; omega))); (focus ((simp [iZ]; done))); simp only [Tryz.ntmps198, List.map_cons, List.map_nil, List.nil_append, List.cons_append, List.append_nil, LV.tv, au, Nat.zero_add, Nat.reduceAdd])
 | ((refine bW (k := 220) Tryz.func220 rfl KS (by rw [Tryz.ntmps220]; simp) ?_ ?_ (fun K hK => ?_)); (focus (exact True.intro)); (focus ((simp [iZ]; done))); simp only [Tryz.ntmps220, List.map_cons, List.map_nil, List.nil_append, List.cons_append, List.append_nil, LV.tv, au, Nat.zero_add, Nat.reduceAdd]))
 | ((with_reducible show nA _ _ _ _ _ _ _ _ _ _ _ _ _); first
 | (refine jG (k := 199) Ku (fun hg => adF _ _ _ _) ?_ ?_)
 | (refine jG (k := 200) KW (fun hg => acp _ _ _ _ _ _) ?_ ?_)
 | (refine jG (k := 201) vF (fun hg => Dv n P _ (by omega) (by omega)) ?_ ?_))
 | ((with_reducible show bM _ _ _ _ _ _ _ _ _ _); first
 | (refine aV (k := 203) JX (fun hg => afr n P (by omega) (fun k hk => haj k (by omega))) ?_ ?_)
 | ((refine nP (k := 198) ?_ ?_) <;> (intro hc; (try simp only [zB, zC, reduceCtorEq] at hc); (try (exfalso; contradiction)))))
 | ((with_reducible refine hR2 _ (j + 1) ?_); (try clear hR2 KR))
 | ((with_reducible refine hR6 _ (i + 1) ?_); (try clear hR6 KR))
 | ((with_reducible refine Told.mk ?_); simp only [go_sem, reduceIte, reduceCtorEq, xA, xL, xD, xE, xM, xS, xB, eX] <;> (first | (((try simp (disch := omega) only [aY, Int.natCast_add, Int.cast_ofNat_Int, and_true, true_and, and_self]); (repeat' (first | omega | (with_reducible refine And.intro ?_ ?_) | (exact all_succ (by assumption) (by assumption)) )); done)) | (((try simp (disch := omega) only [aY, Int.natCast_add, Int.cast_ofNat_Int, and_true, true_and, and_self]); (repeat' (first | omega | (with_reducible refine And.intro ?_ ?_) | ((exact all_succ (by assumption) ⟨fun h0 => by omega, by unfold trJ; exact hc.2⟩)))); done))))
 | ((fail_if_success (with_reducible show AW _ _ _ _)); simp (maxSteps := 2000000) only [go_sem, reduceIte, reduceCtorEq, xA, xL, xD, xE, xM, xS, xB, Tryz.f170, Tryz.f198, Tryz.f220, eX])
 | ((fail_if_success (with_reducible show AW _ _ _ _)); simp (disch := omega) only [aY, iP, iX])
 | ((with_reducible refine hK _ ?_); clear hK K)
 | (with_reducible apply_assumption -exfalso only [*]))
  all_goals (first | exact ahr (by assumption) | exact agN (by assumption) (by assumption) | exact aho (by assumption) haj (by assumption) (by assumption) hc | exact ahO (by assumption) haj (by assumption) hai hc)
end Go.Proofs.YtcfechepbamhkaaGreat
set_option maxRecDepth 100000
set_option maxHeartbeats 4000000
namespace Go.Proofs.YtcfechepbamhkaaGreat
open Go.RowKit Go.Sea
open Nat renaming reduceAdd -> xA, reduceLT -> xL, reduceLeDiff -> xD, reduceEqDiff -> xE, reduceMul -> xM, reduceSub -> xS, reduceBEq -> xB
theorem agJ : boD Tryz.prog 174 = false := by kernel_rfl
theorem al2 : boD Tryz.prog 60 = false := by kernel_rfl
theorem ahy : eqD Tryz.prog 174 = some (true, [.int .i64, .int .i64, .int .i64, .int .i64, .int .i64, .int .i64]) := by kernel_rfl
theorem alg : eqD Tryz.prog 60 = some (true, [.int .i64, .int .i64]) := by kernel_rfl
attribute [go_sem] agJ al2 ahy alg
def eqI (w : Nat) (P Q : Nat -> Nat -> Int) (i : Nat) : Prop := ∀ o, o < w -> P i o = Q i o
def CK (w n m : Nat) (P Q : Nat -> Nat -> Int) : Bool := decide (n = m /\ ∀ i, i < n -> ∀ o, o < w -> P i o = Q i o)
theorem Hy {w n m : Nat} {P Q : Nat -> Nat -> Int} (h : (n : Int) ≠ m) : false = CK w n m P Q := (decide_eq_false fun g => by omega).symm
theorem NM {w n m i : Nat} {P Q : Nat -> Nat -> Int} (h : (n : Int) = m) (hi : (n : Int) <= i) (g : ∀ i', i' < i -> eqI w P Q i') : true = CK w n m P Q := (decide_eq_true ⟨by omega, fun k hk => g k (by omega)⟩).symm
theorem ajI (n m : Nat) (P Q : Nat -> Nat -> Int) (hn : n <= 9223372036854775807) (hm : m <= 9223372036854775807) : aA Tryz.prog 146 [.one (.lst 2 n (eX P)), .one (.lst 2 m (eX Q))] (.t (.one (.g (.bool (CK 2 n m P Q))))) := by
  refine ak Tryz.func146 rfl (by rw [Tryz.ntmps146]; simp) ?_
  simp only [Tryz.ntmps146, zM, PT.tv, au, Nat.zero_add, Nat.reduceAdd]
  repeat' (first
 | ((with_reducible show AW _ _ _ _); first
 | (with_reducible first | refine aS (fun K hK => ?_) | refine aI ?_ | refine aX ?_ | refine aT ?_ | refine aC ?_ | refine aB ?_)
 | (first
 | (with_reducible first | refine aP 0 [0,1] ?_ | refine aP 1 [0,1] ?_ | refine aP 2 [] ?_ | refine aP 3 [0,1] ?_ | refine aP 4 [0,1,12,13] ?_ | refine aP 5 [0,1,12,13] ?_)
 | ((with_reducible refine aR (c := Code.region 6 _ true) [0,1,5,12,13] ?_); (with_reducible refine aD ?_ ?_ ?_ ?_); (focus kernel_rfl); (focus kernel_rfl); (focus kernel_rfl))
 | (with_reducible first | refine aP 7 [] ?_ | refine aP 8 [0,1,12,13] ?_ | refine aP 9 [] ?_))
 | ((with_reducible show AW _ (Code.loop _) _ _); first
 | ((with_reducible refine aL (c := (Code.seq (Code.region 4 _ _) _)) (ι := Nat) [0,1,12] (fun i => [(13, iA .i64 (i : Int))]) (fun i => []) (fun i => i <= n /\ (∀ i', i' < i -> eqI 2 P Q i')) (fun i => n - i) 0 ?lg4 ?l14 ?l24 ?li4 ?lr4); (case' lg4 => rintro i _); (case' li4 => try (exact ⟨Nat.zero_le _, fun i hi => absurd hi (Nat.not_lt_zero _)⟩)); (case' lr4 => rintro i ⟨hi, hai⟩ KR hR4; simp only [bG, dL, hset, lk, if_true, if_false, xE, reduceIte, zN, Go.Sea.oK]))))
 | (((with_reducible refine And.intro ?_ ?_)); focus (omega))
 | (with_reducible refine aK ?_)
 | ((with_reducible show bL _ _ _ _ _ _); first
 | ((with_reducible refine aN ?_ ?_) <;> (intro hc; (try simp only [zB, zC, reduceCtorEq] at hc); (try (exfalso; contradiction)))))
 | ((with_reducible refine And.intro ?_ ?_); focus ((with_reducible show iL _ _ _ = true); kernel_rfl))
 | ((with_reducible refine hR4 _ (i + 1) ?_); (try clear hR4 KR))
 | ((with_reducible refine Told.mk ?_); simp only [go_sem, reduceIte, reduceCtorEq, xA, xL, xD, xE, xM, xS, xB, eX, Go.Sea.oK] <;> ((((try simp (disch := omega) only [aY, Int.natCast_add, Int.cast_ofNat_Int, and_true, true_and, and_self]); (repeat' (first | omega | (with_reducible refine And.intro ?_ ?_) | ((exact all_succ (by assumption) (by (intro o ho; rcases o with _ | _ | o <;> first | omega | (simp_all; done))))))); done))))
 | ((fail_if_success (with_reducible show AW _ _ _ _)); simp (maxSteps := 2000000) only [go_sem, reduceIte, reduceCtorEq, xA, xL, xD, xE, xM, xS, xB, Tryz.f146, eX, Go.Sea.oK])
 | ((with_reducible refine hK _ ?_); clear hK K)
 | (with_reducible apply_assumption -exfalso only [*]))
  all_goals (first | exact Hy (by omega) | exact NM (by omega) (by omega) hai | (refine (decide_eq_false fun g => ?_).symm; have g2 := g.2 i (by omega); have r0 := g2 0 (by omega); have r1 := g2 1 (by omega); simp_all; done))
theorem abP (n m : Nat) (P Q : Nat -> Nat -> Int) (hn : n <= 9223372036854775807) (hm : m <= 9223372036854775807) : aA Tryz.prog 112 [.one (.lst 2 n (eX P)), .one (.lst 2 m (eX Q))] (.t (.one (.g (.bool (CK 2 n m P Q))))) := by
  refine ak Tryz.func112 rfl (by rw [Tryz.ntmps112]; simp) ?_
  simp only [Tryz.ntmps112, zM, PT.tv, au, Nat.zero_add, Nat.reduceAdd]
  repeat' (first
 | ((with_reducible show AW _ _ _ _); first
 | (with_reducible first | refine aS (fun K hK => ?_) | refine aI ?_ | refine aX ?_ | refine aT ?_ | refine aC ?_ | refine aB ?_)
 | (first
 | (with_reducible first | refine aP 0 [0,1] ?_ | refine aP 1 [0,1] ?_ | refine aP 2 [] ?_ | refine aP 3 [0,1] ?_ | refine aP 4 [0,1,5] ?_ | refine aP 5 [0,1,5] ?_)
 | ((with_reducible refine aR (c := Code.region 6 _ true) [0,1,5] ?_); (with_reducible refine aD ?_ ?_ ?_ ?_); (focus kernel_rfl); (focus kernel_rfl); (focus kernel_rfl))
 | (with_reducible first | refine aP 7 [] ?_ | refine aP 8 [] ?_))
 | ((with_reducible show AW _ (Code.loop _) _ _); first
 | ((with_reducible refine aL (c := (Code.seq (Code.seq (Code.region 4 _ _) _) _)) (ι := Nat) [0,1] (fun i => [(5, iA .i64 (i : Int))]) (fun i => []) (fun i => i <= n /\ (∀ i', i' < i -> eqI 2 P Q i')) (fun i => n - i) 0 ?lg4 ?l14 ?l24 ?li4 ?lr4); (case' lg4 => rintro i _); (case' li4 => try (exact ⟨Nat.zero_le _, fun i hi => absurd hi (Nat.not_lt_zero _)⟩)); (case' lr4 => rintro i ⟨hi, hai⟩ KR hR4; simp only [bG, dL, hset, lk, if_true, if_false, xE, reduceIte, zN, Go.Sea.oK]))))
 | (((with_reducible refine And.intro ?_ ?_)); focus (omega))
 | (with_reducible refine aK ?_)
 | ((with_reducible show bL _ _ _ _ _ _); first
 | ((with_reducible refine aN ?_ ?_) <;> (intro hc; (try simp only [zB, zC, reduceCtorEq] at hc); (try (exfalso; contradiction)))))
 | ((with_reducible refine And.intro ?_ ?_); focus ((with_reducible show iL _ _ _ = true); kernel_rfl))
 | ((with_reducible refine hR4 _ (i + 1) ?_); (try clear hR4 KR))
 | ((with_reducible refine Told.mk ?_); simp only [go_sem, reduceIte, reduceCtorEq, xA, xL, xD, xE, xM, xS, xB, eX, Go.Sea.oK] <;> ((((try simp (disch := omega) only [aY, Int.natCast_add, Int.cast_ofNat_Int, and_true, true_and, and_self]); (repeat' (first | omega | (with_reducible refine And.intro ?_ ?_) | ((exact all_succ (by assumption) (by (intro o ho; rcases o with _ | _ | o <;> first | omega | (simp_all; done))))))); done))))
 | ((fail_if_success (with_reducible show AW _ _ _ _)); simp (maxSteps := 2000000) only [go_sem, reduceIte, reduceCtorEq, xA, xL, xD, xE, xM, xS, xB, Tryz.f112, eX, Go.Sea.oK])
 | ((with_reducible refine hK _ ?_); clear hK K)
 | (with_reducible apply_assumption -exfalso only [*]))
  all_goals (first | exact Hy (by omega) | exact NM (by omega) (by omega) hai | (refine (decide_eq_false fun g => ?_).symm; have g2 := g.2 i (by omega); have r0 := g2 0 (by omega); have r1 := g2 1 (by omega); simp_all; done))
theorem acH (n m : Nat) (P Q : Nat -> Nat -> Int) (hn : n <= 9223372036854775807) (hm : m <= 9223372036854775807) : aA Tryz.prog 147 [.one (.lst 6 n (eX P)), .one (.lst 6 m (eX Q))] (.t (.one (.g (.bool (CK 6 n m P Q))))) := by
  refine ak Tryz.func147 rfl (by rw [Tryz.ntmps147]; simp) ?_
  simp only [Tryz.ntmps147, zM, PT.tv, au, Nat.zero_add, Nat.reduceAdd]
  repeat' (first
 | ((with_reducible show AW _ _ _ _); first
 | (with_reducible first | refine aS (fun K hK => ?_) | refine aI ?_ | refine aX ?_ | refine aT ?_ | refine aC ?_ | refine aB ?_)
 | (first
 | (with_reducible first | refine aP 0 [0,1] ?_ | refine aP 1 [0,1] ?_ | refine aP 2 [] ?_ | refine aP 3 [0,1] ?_ | refine aP 4 [0,1,12,13] ?_ | refine aP 5 [0,1,12,13] ?_)
 | ((with_reducible refine aR (c := Code.region 6 _ true) [0,1,5,12,13] ?_); (with_reducible refine aD ?_ ?_ ?_ ?_); (focus kernel_rfl); (focus kernel_rfl); (focus kernel_rfl))
 | (with_reducible first | refine aP 7 [] ?_ | refine aP 8 [0,1,12,13] ?_ | refine aP 9 [] ?_))
 | ((with_reducible show AW _ (Code.loop _) _ _); first
 | ((with_reducible refine aL (c := (Code.seq (Code.region 4 _ _) _)) (ι := Nat) [0,1,12] (fun i => [(13, iA .i64 (i : Int))]) (fun i => []) (fun i => i <= n /\ (∀ i', i' < i -> eqI 6 P Q i')) (fun i => n - i) 0 ?lg4 ?l14 ?l24 ?li4 ?lr4); (case' lg4 => rintro i _); (case' li4 => try (exact ⟨Nat.zero_le _, fun i hi => absurd hi (Nat.not_lt_zero _)⟩)); (case' lr4 => rintro i ⟨hi, hai⟩ KR hR4; simp only [bG, dL, hset, lk, if_true, if_false, xE, reduceIte, zN, Go.Sea.oK]))))
 | (((with_reducible refine And.intro ?_ ?_)); focus (omega))
 | (with_reducible refine aK ?_)
 | ((with_reducible show bL _ _ _ _ _ _); first
 | ((with_reducible refine aN ?_ ?_) <;> (intro hc; (try simp only [zB, zC, reduceCtorEq] at hc); (try (exfalso; contradiction)))))
 | ((with_reducible refine And.intro ?_ ?_); focus ((with_reducible show iL _ _ _ = true); kernel_rfl))
 | ((with_reducible refine hR4 _ (i + 1) ?_); (try clear hR4 KR))
 | ((with_reducible refine Told.mk ?_); simp only [go_sem, reduceIte, reduceCtorEq, xA, xL, xD, xE, xM, xS, xB, eX, Go.Sea.oK] <;> ((((try simp (disch := omega) only [aY, Int.natCast_add, Int.cast_ofNat_Int, and_true, true_and, and_self]); (repeat' (first | omega | (with_reducible refine And.intro ?_ ?_) | ((exact all_succ (by assumption) (by (intro o ho; rcases o with _ | _ | _ | _ | _ | _ | o <;> first | omega | (simp_all; done))))))); done))))
 | ((fail_if_success (with_reducible show AW _ _ _ _)); simp (maxSteps := 2000000) only [go_sem, reduceIte, reduceCtorEq, xA, xL, xD, xE, xM, xS, xB, Tryz.f147, eX, Go.Sea.oK])
 | ((with_reducible refine hK _ ?_); clear hK K)
 | (with_reducible apply_assumption -exfalso only [*]))
  all_goals (first | exact Hy (by omega) | exact NM (by omega) (by omega) hai | (refine (decide_eq_false fun g => ?_).symm; have g2 := g.2 i (by omega); have r0 := g2 0 (by omega); have r1 := g2 1 (by omega); have r2 := g2 2 (by omega); have r3 := g2 3 (by omega); have r4 := g2 4 (by omega); have r5 := g2 5 (by omega); simp_all; done))
theorem Yg (n m : Nat) (P Q : Nat -> Nat -> Int) (hn : n <= 9223372036854775807) (hm : m <= 9223372036854775807) : aA Tryz.prog 113 [.one (.lst 6 n (eX P)), .one (.lst 6 m (eX Q))] (.t (.one (.g (.bool (CK 6 n m P Q))))) := by
  refine ak Tryz.func113 rfl (by rw [Tryz.ntmps113]; simp) ?_
  simp only [Tryz.ntmps113, zM, PT.tv, au, Nat.zero_add, Nat.reduceAdd]
  repeat' (first
 | ((with_reducible show AW _ _ _ _); first
 | (with_reducible first | refine aS (fun K hK => ?_) | refine aI ?_ | refine aX ?_ | refine aT ?_ | refine aC ?_ | refine aB ?_)
 | (first
 | (with_reducible first | refine aP 0 [0,1] ?_ | refine aP 1 [0,1] ?_ | refine aP 2 [] ?_ | refine aP 3 [0,1] ?_ | refine aP 4 [0,1,5] ?_ | refine aP 5 [0,1,5] ?_)
 | ((with_reducible refine aR (c := Code.region 6 _ true) [0,1,5] ?_); (with_reducible refine aD ?_ ?_ ?_ ?_); (focus kernel_rfl); (focus kernel_rfl); (focus kernel_rfl))
 | (with_reducible first | refine aP 7 [] ?_ | refine aP 8 [] ?_))
 | ((with_reducible show AW _ (Code.loop _) _ _); first
 | ((with_reducible refine aL (c := (Code.seq (Code.seq (Code.region 4 _ _) _) _)) (ι := Nat) [0,1] (fun i => [(5, iA .i64 (i : Int))]) (fun i => []) (fun i => i <= n /\ (∀ i', i' < i -> eqI 6 P Q i')) (fun i => n - i) 0 ?lg4 ?l14 ?l24 ?li4 ?lr4); (case' lg4 => rintro i _); (case' li4 => try (exact ⟨Nat.zero_le _, fun i hi => absurd hi (Nat.not_lt_zero _)⟩)); (case' lr4 => rintro i ⟨hi, hai⟩ KR hR4; simp only [bG, dL, hset, lk, if_true, if_false, xE, reduceIte, zN, Go.Sea.oK]))))
 | (((with_reducible refine And.intro ?_ ?_)); focus (omega))
 | (with_reducible refine aK ?_)
 | ((with_reducible show bL _ _ _ _ _ _); first
 | ((with_reducible refine aN ?_ ?_) <;> (intro hc; (try simp only [zB, zC, reduceCtorEq] at hc); (try (exfalso; contradiction)))))
 | ((with_reducible refine And.intro ?_ ?_); focus ((with_reducible show iL _ _ _ = true); kernel_rfl))
 | ((with_reducible refine hR4 _ (i + 1) ?_); (try clear hR4 KR))
 | ((with_reducible refine Told.mk ?_); simp only [go_sem, reduceIte, reduceCtorEq, xA, xL, xD, xE, xM, xS, xB, eX, Go.Sea.oK] <;> ((((try simp (disch := omega) only [aY, Int.natCast_add, Int.cast_ofNat_Int, and_true, true_and, and_self]); (repeat' (first | omega | (with_reducible refine And.intro ?_ ?_) | ((exact all_succ (by assumption) (by (intro o ho; rcases o with _ | _ | _ | _ | _ | _ | o <;> first | omega | (simp_all; done))))))); done))))
 | ((fail_if_success (with_reducible show AW _ _ _ _)); simp (maxSteps := 2000000) only [go_sem, reduceIte, reduceCtorEq, xA, xL, xD, xE, xM, xS, xB, Tryz.f113, eX, Go.Sea.oK])
 | ((with_reducible refine hK _ ?_); clear hK K)
 | (with_reducible apply_assumption -exfalso only [*]))
  all_goals (first | exact Hy (by omega) | exact NM (by omega) (by omega) hai | (refine (decide_eq_false fun g => ?_).symm; have g2 := g.2 i (by omega); have r0 := g2 0 (by omega); have r1 := g2 1 (by omega); have r2 := g2 2 (by omega); have r3 := g2 3 (by omega); have r4 := g2 4 (by omega); have r5 := g2 5 (by omega); simp_all; done))
end Go.Proofs.YtcfechepbamhkaaGreat
set_option maxRecDepth 100000
set_option maxHeartbeats 4000000
namespace Go.Proofs.YtcfechepbamhkaaGreat
open Go.RowKit Go.Sea
open Nat renaming reduceAdd -> xA, reduceLT -> xL, reduceLeDiff -> xD, reduceEqDiff -> xE, reduceMul -> xM, reduceSub -> xS, reduceBEq -> xB
theorem JY : aM Tryz.prog 146 = true := by kernel_rfl
theorem KZ : aM Tryz.prog 147 = true := by kernel_rfl
theorem J6 : aM Tryz.prog 112 = true := by kernel_rfl
theorem JJ : aM Tryz.prog 113 = true := by kernel_rfl
theorem Js : aM Tryz.prog 169 = true := by kernel_rfl
theorem Kl : aM Tryz.prog 170 = true := by kernel_rfl
theorem Jj : aM Tryz.prog 171 = true := by kernel_rfl
theorem Xm : aM Tryz.prog 180 = true := by kernel_rfl
theorem ZT : aM Tryz.prog 182 = true := by kernel_rfl
theorem Xr : aM Tryz.prog 183 = true := by kernel_rfl
theorem Vh : aM Tryz.prog 184 = true := by kernel_rfl
theorem YC : aM Tryz.prog 185 = true := by kernel_rfl
theorem adR : dF Tryz.prog 64 0 = some 0 := by kernel_rfl
theorem acI : dF Tryz.prog 64 1 = some 1 := by kernel_rfl
theorem abq : dF Tryz.prog 64 2 = some 2 := by kernel_rfl
theorem abR : dF Tryz.prog 64 3 = some 4 := by kernel_rfl
theorem adW : dF Tryz.prog 64 4 = some 5 := by kernel_rfl
theorem ab7 : dF Tryz.prog 64 5 = some 6 := by kernel_rfl
theorem adD : dF Tryz.prog 64 6 = some 7 := by kernel_rfl
theorem abt : dF Tryz.prog 64 7 = some 8 := by kernel_rfl
theorem amo : lD Tryz.prog 61 = some (false, 1) := by kernel_rfl
theorem amv : lD Tryz.prog 62 = some (false, 1) := by kernel_rfl
attribute [go_sem] JY KZ J6 JJ Js Kl Jj Xm ZT Xr Vh YC adR acI abq abR adW ab7 adD abt amo amv
structure aW where
  id : Int
  kd : Int
  x : Int
  y : Int
  r : Int
  n : Nat
  P : Nat -> Nat -> Int
  d : Int
  s : Int
  m : Nat
  S : Nat -> Nat -> Int
structure aW.Ok (f : aW) : Prop where
  n : f.n <= 9223372036854775807
  m : f.m <= 9223372036854775807
def rW (x y r : Int) : Bool := gL (x - r) (y - r) && gL (x + r) (y + r)
def Ef (id kd x y r : Int) (n : Nat) (d s : Int) (m : Nat) (pt rm po se : Bool) : Prop :=
  (1 <= id /\ id <= 100000) /\ (0 <= s /\ s <= 999) /\ (0 <= d /\ d <= 100000) /\ (0 <= r /\ r <= 100000) ∧
  ((kd = 1 \/ kd = 2 \/ kd = 5) /\ pt = true /\ rm = true /\ n = 0 /\ m = 0 \/ (kd = 3 \/ kd = 6) /\ (kd = 6 -> d = 0) /\ po = true /\ x = 0 /\ y = 0 /\ r = 0 /\ m = 0 \/ kd = 4 /\ pt = true /\ se = true /\ r = 0 /\ d = 0 /\ n = 0)
instance (id kd x y r : Int) (n : Nat) (d s : Int) (m : Nat) (pt rm po se : Bool) : Decidable (Ef id kd x y r n d s m pt rm po se) := by unfold Ef; infer_instance
def jw (f : aW) : Bool := decide (Ef f.id f.kd f.x f.y f.r f.n f.d f.s f.m (gL f.x f.y) (rW f.x f.y f.r) (zG f.n f.P) (vL f.m f.S))
def uM (f g : aW) : Bool := decide (f.id = g.id /\ f.kd = g.kd /\ f.x = g.x /\ f.y = g.y /\ f.r = g.r /\ f.d = g.d /\ f.s = g.s) && (CK 2 f.n g.n f.P g.P && CK 6 f.m g.m f.S g.S)
theorem OI (x y : Int) : gL x y = true ↔ (-1000000 <= x /\ x <= 1000000 /\ -1000000 <= y /\ y <= 1000000) := by
  unfold gL; simp only [Bool.and_eq_true, decide_eq_true_eq, and_assoc]
theorem jQ (f : aW) : jw f = true ↔ Ef f.id f.kd f.x f.y f.r f.n f.d f.s f.m (gL f.x f.y) (rW f.x f.y f.r) (zG f.n f.P) (vL f.m f.S) := decide_eq_true_iff
def JE (f : aW) : Prop := (1 <= f.id /\ f.id <= 100000) /\ (0 <= f.s /\ f.s <= 999) /\ (0 <= f.d /\ f.d <= 100000) /\ (0 <= f.r /\ f.r <= 100000)
theorem ajf {f : aW} (h : ¬ JE f) : false = jw f := (decide_eq_false fun g => h ⟨g.1, g.2.1, g.2.2.1, g.2.2.2.1⟩).symm
theorem agU {f : aW} (h : f.kd ≠ 1 /\ f.kd ≠ 2 /\ f.kd ≠ 5 /\ f.kd ≠ 6 /\ f.kd ≠ 3 /\ f.kd ≠ 4) : false = jw f := (decide_eq_false fun g => by
  rcases g.2.2.2.2 with k | k | k <;> omega).symm
theorem ahZ {f : aW} (h : f.kd = 6) (hd : f.d > 0) : false = jw f := (decide_eq_false fun g => by
  rcases g.2.2.2.2 with k | k | k
  · omega
  · have := k.2.1 h; omega
  · omega).symm
theorem ajn {f : aW} (hr : JE f) (hk : f.kd = 1 \/ f.kd = 2 \/ f.kd = 5) : (gL f.x f.y && rW f.x f.y f.r && (f.n : Int) == 0 && (f.m : Int) == 0) = jw f := by
  refine Bool.eq_iff_iff.2 ?_
  rw [jQ]; unfold Ef; simp only [Bool.and_eq_true, beq_iff_eq]
  constructor
  · rintro ⟨⟨⟨h1, h2⟩, h3⟩, h4⟩; exact ⟨hr.1, hr.2.1, hr.2.2.1, hr.2.2.2, Or.inl ⟨hk, h1, h2, by omega, by omega⟩⟩
  · rintro ⟨_, _, _, _, h | h | h⟩
    · exact ⟨⟨⟨h.2.1, h.2.2.1⟩, by omega⟩, by omega⟩
    · omega
    · omega
theorem aj9 {f : aW} (hr : JE f) (hk : f.kd = 3 \/ f.kd = 6) (hd : f.kd = 6 -> f.d = 0) : (zG f.n f.P && (f.x == 0 && f.y == 0) && f.r == 0 && (f.m : Int) == 0) = jw f := by
  refine Bool.eq_iff_iff.2 ?_
  rw [jQ]; unfold Ef; simp only [Bool.and_eq_true, beq_iff_eq]
  constructor
  · rintro ⟨⟨⟨h1, h2⟩, h3⟩, h4⟩; exact ⟨hr.1, hr.2.1, hr.2.2.1, hr.2.2.2, Or.inr (Or.inl ⟨hk, hd, h1, h2.1, h2.2, h3, by omega⟩)⟩
  · rintro ⟨_, _, _, _, h | h | h⟩
    · omega
    · exact ⟨⟨⟨h.2.2.1, h.2.2.2.1, h.2.2.2.2.1⟩, h.2.2.2.2.2.1⟩, by omega⟩
    · omega
theorem ahE {f : aW} (hr : JE f) (hk : f.kd = 4) : (gL f.x f.y && vL f.m f.S && f.r == 0 && f.d == 0 && (f.n : Int) == 0) = jw f := by
  refine Bool.eq_iff_iff.2 ?_
  rw [jQ]; unfold Ef; simp only [Bool.and_eq_true, beq_iff_eq]
  constructor
  · rintro ⟨⟨⟨⟨h1, h2⟩, h3⟩, h4⟩, h5⟩; exact ⟨hr.1, hr.2.1, hr.2.2.1, hr.2.2.2, Or.inr (Or.inr ⟨hk, h1, h2, h3, h4, by omega⟩)⟩
  · rintro ⟨_, _, _, _, h | h | h⟩
    · omega
    · omega
    · exact ⟨⟨⟨⟨h.2.1, h.2.2.1⟩, h.2.2.2.1⟩, h.2.2.2.2.1⟩, by omega⟩
theorem abo (x y r : Int) (hp : gL x y = true) (hr : 0 <= r /\ r <= 100000) : aA Tryz.prog 169 [.agg [.g (.int .i64 (x)), .g (.int .i64 (y))], .one (.g (.int .i64 r))] (.t (.one (.g (.bool (rW x y r))))) := by
  have hq := (OI _ _).1 hp
  refine ak Tryz.func169 rfl (by rw [Tryz.ntmps169]; simp) ?_
  simp only [Tryz.ntmps169, zM, PT.tv, au, Nat.zero_add, Nat.reduceAdd]
  repeat' (first
 | ((with_reducible show AW _ _ _ _); first
 | (with_reducible first | refine aS (fun K hK => ?_) | refine aT ?_)
 | (first
 | (with_reducible first | refine aP 0 [0,1] ?_ | refine aP 1 [1,2] ?_)))
 | (((with_reducible refine Need.mk ?_)); focus (first | exact True.intro | (intro _; (with_reducible assumption))))
 | (with_reducible refine aK ?_)
 | ((with_reducible show aZ _ _ _ _ _ _ _ _ _ _); first
 | (refine aG (k := 144) jV (yT _ _) ?_ ?_))
 | ((with_reducible show bM _ _ _ _ _ _ _ _ _ _); first
 | (refine aV (k := 144) jV (fun hg => yT _ _) ?_ ?_))
 | ((fail_if_success (with_reducible show AW _ _ _ _)); simp (maxSteps := 2000000) only [go_sem, reduceIte, reduceCtorEq, xA, xL, xD, xE, xM, xS, xB, Tryz.f169])
 | ((fail_if_success (with_reducible show AW _ _ _ _)); simp (disch := omega) only [aY, iP, iX])
 | ((with_reducible refine hK _ ?_); clear hK K))
  all_goals ((unfold rW; simp_all; done))
theorem afE (x y r : Int) (hp : gL x y = true) (hr : 0 <= r /\ r <= 100000) : aA Tryz.prog 145 [.agg [.g (.int .i64 (x)), .g (.int .i64 (y))], .one (.g (.int .i64 r))] (.t (.one (.g (.bool (rW x y r))))) := by
  have hq := (OI _ _).1 hp
  refine ak Tryz.func145 rfl (by rw [Tryz.ntmps145]; simp) ?_
  simp only [Tryz.ntmps145, zM, PT.tv, au, Nat.zero_add, Nat.reduceAdd]
  repeat' (first
 | ((with_reducible show AW _ _ _ _); first
 | (with_reducible first | refine aS (fun K hK => ?_) | refine aT ?_)
 | (first
 | (with_reducible first | refine aP 0 [0,1] ?_ | refine aP 1 [1,2] ?_)))
 | (((with_reducible refine Need.mk ?_)); focus (first | exact True.intro | (intro _; (with_reducible assumption))))
 | (with_reducible refine aK ?_)
 | ((with_reducible show aZ _ _ _ _ _ _ _ _ _ _); first
 | (refine aG (k := 144) jV (yT _ _) ?_ ?_))
 | ((with_reducible show bM _ _ _ _ _ _ _ _ _ _); first
 | (refine aV (k := 144) jV (fun hg => yT _ _) ?_ ?_))
 | ((fail_if_success (with_reducible show AW _ _ _ _)); simp (maxSteps := 2000000) only [go_sem, reduceIte, reduceCtorEq, xA, xL, xD, xE, xM, xS, xB, Tryz.f145])
 | ((fail_if_success (with_reducible show AW _ _ _ _)); simp (disch := omega) only [aY, iP, iX])
 | ((with_reducible refine hK _ ?_); clear hK K))
  all_goals ((unfold rW; simp_all; done))
theorem XE (f : aW) (ho : f.Ok) : aA Tryz.prog 133 [.agg [.g (.int .i64 (f.id)), .g (.int .i64 (f.kd)), .g (.int .i64 (f.x)), .g (.int .i64 (f.y)), .g (.int .i64 (f.r)), .lst 2 f.n (eX f.P), .g (.int .i64 (f.d)), .g (.int .i64 (f.s)), .lst 6 f.m (eX f.S)]] (.t (.one (.g (.bool (jw f))))) := by
  refine ak Tryz.func133 rfl (by rw [Tryz.ntmps133]; simp) ?_
  simp only [Tryz.ntmps133, zM, PT.tv, au, Nat.zero_add, Nat.reduceAdd]
  repeat' (first
 | ((with_reducible show AW _ _ _ _); first
 | (with_reducible first | refine aS (fun K hK => ?_) | refine aI ?_ | refine aX ?_ | refine aT ?_ | refine aC ?_ | refine aB ?_)
 | (first
 | (with_reducible first | refine aP 0 [0] ?_ | refine aP 1 [1] ?_ | refine aP 2 [] ?_ | refine aP 3 [1] ?_ | refine aP 4 [1,42] ?_ | refine aP 5 [1,42] ?_ | refine aP 6 [1,42] ?_ | refine aP 7 [1,42] ?_ | refine aP 8 [1,42] ?_ | refine aP 9 [1,42] ?_ | refine aP 10 [1] ?_ | refine aP 11 [1] ?_ | refine aP 12 [] ?_ | refine aP 13 [1] ?_ | refine aP 14 [1] ?_ | refine aP 15 [] ?_)))
 | ((first | (with_reducible refine And.intro ?_ ?_) | (with_reducible refine Need.mk ?_)); focus (first | exact True.intro | (intro _; (with_reducible assumption)) | (simp; done)))
 | (with_reducible refine aK ?_)
 | ((with_reducible show bL _ _ _ _ _ _); first
 | ((with_reducible refine aN ?_ ?_) <;> (intro hc; (try simp only [zB, zC, reduceCtorEq] at hc); (try (exfalso; contradiction)))))
 | ((with_reducible show aZ _ _ _ _ _ _ _ _ _ _); first
 | (refine aG (k := 144) jV (yT _ _) ?_ ?_)
 | (refine aG (k := 170) Kl (alI _ _ ho.n) ?_ ?_))
 | ((with_reducible show bM _ _ _ _ _ _ _ _ _ _); first
 | (refine aV (k := 169) Js (fun hg => abo _ _ _ (by assumption) (by omega)) ?_ ?_)
 | (refine aV (k := 171) Jj (fun hg => aiF _ _ (by have := ho.m; omega)) ?_ ?_))
 | ((fail_if_success (with_reducible show AW _ _ _ _)); simp (maxSteps := 2000000) only [go_sem, reduceIte, reduceCtorEq, xA, xL, xD, xE, xM, xS, xB, Tryz.f133, Go.Sea.oK])
 | ((with_reducible refine hK _ ?_); clear hK K)
 | (with_reducible apply_assumption -exfalso only [*]))
  all_goals (first | exact ajf (by unfold JE; omega) | exact ahZ (by omega) (by omega) | exact agU (by omega) | exact ajn (by unfold JE; omega) (by omega) | exact aj9 (by unfold JE; omega) (by omega) (by omega) | exact ahE (by unfold JE; omega) (by omega))
theorem acg (f g : aW) (ho : f.Ok) (ho2 : g.Ok) : aA Tryz.prog 108 [.agg [.g (.int .i64 (f.id)), .g (.int .i64 (f.kd)), .g (.int .i64 (f.x)), .g (.int .i64 (f.y)), .g (.int .i64 (f.r)), .lst 2 f.n (eX f.P), .g (.int .i64 (f.d)), .g (.int .i64 (f.s)), .lst 6 f.m (eX f.S)], .agg [.g (.int .i64 (g.id)), .g (.int .i64 (g.kd)), .g (.int .i64 (g.x)), .g (.int .i64 (g.y)), .g (.int .i64 (g.r)), .lst 2 g.n (eX g.P), .g (.int .i64 (g.d)), .g (.int .i64 (g.s)), .lst 6 g.m (eX g.S)]] (.t (.one (.g (.bool (uM f g))))) := by
  refine ak Tryz.func108 rfl (by rw [Tryz.ntmps108]; simp) ?_
  simp only [Tryz.ntmps108, zM, PT.tv, au, Nat.zero_add, Nat.reduceAdd]
  repeat' (first
 | ((with_reducible show AW _ _ _ _); first
 | (with_reducible first | refine aS (fun K hK => ?_) | refine aT ?_)
 | (first
 | (with_reducible first | refine aP 0 [0,1] ?_ | refine aP 1 [2,3] ?_)))
 | (((with_reducible refine Need.mk ?_)); focus ((intro _; (with_reducible assumption))))
 | (with_reducible refine aK ?_)
 | ((with_reducible show bM _ _ _ _ _ _ _ _ _ _); first
 | (refine aV (k := 146) JY (fun hg => ajI _ _ _ _ ho.n ho2.n) ?_ ?_)
 | (refine aV (k := 147) KZ (fun hg => acH _ _ _ _ ho.m ho2.m) ?_ ?_))
 | ((fail_if_success (with_reducible show AW _ _ _ _)); simp (maxSteps := 2000000) only [go_sem, reduceIte, reduceCtorEq, xA, xL, xD, xE, xM, xS, xB, Tryz.f108, Go.Sea.oK])
 | ((with_reducible refine hK _ ?_); clear hK K))
  all_goals ((unfold uM; refine Bool.eq_iff_iff.2 ?_; simp only [decide_eq_true_eq, Bool.and_eq_true, beq_iff_eq]; constructor <;> (intro h; simp_all; done)))
theorem aau (f g : aW) (ho : f.Ok) (ho2 : g.Ok) : aA Tryz.prog 64 [.agg [.g (.int .i64 (f.id)), .g (.int .i64 (f.kd)), .g (.int .i64 (f.x)), .g (.int .i64 (f.y)), .g (.int .i64 (f.r)), .lst 2 f.n (eX f.P), .g (.int .i64 (f.d)), .g (.int .i64 (f.s)), .lst 6 f.m (eX f.S)], .agg [.g (.int .i64 (g.id)), .g (.int .i64 (g.kd)), .g (.int .i64 (g.x)), .g (.int .i64 (g.y)), .g (.int .i64 (g.r)), .lst 2 g.n (eX g.P), .g (.int .i64 (g.d)), .g (.int .i64 (g.s)), .lst 6 g.m (eX g.S)]] (.t (.one (.g (.bool (uM f g))))) := by
  refine ak Tryz.func64 rfl (by rw [Tryz.ntmps64]; simp) ?_
  simp only [Tryz.ntmps64, zM, PT.tv, au, Nat.zero_add, Nat.reduceAdd]
  repeat' (first
 | ((with_reducible show AW _ _ _ _); first
 | (with_reducible first | refine aS (fun K hK => ?_) | refine aI ?_ | refine aT ?_ | refine aC ?_)
 | (first
 | (with_reducible first | refine aP 0 [0,1] ?_ | refine aP 1 [2,3] ?_ | refine aP 2 [] ?_ | refine aP 3 [2,3] ?_)))
 | ((first | (with_reducible refine And.intro ?_ ?_) | (with_reducible refine Need.mk ?_)); focus (first | exact True.intro | (intro _; (with_reducible assumption)) | (simp; done)))
 | (with_reducible refine aK ?_)
 | ((with_reducible show bL _ _ _ _ _ _); first
 | ((with_reducible refine aN ?_ ?_) <;> (intro hc; (try simp only [zB, zC, reduceCtorEq] at hc); (try (exfalso; contradiction)))))
 | ((with_reducible show aZ _ _ _ _ _ _ _ _ _ _); first
 | (refine aG (k := 112) J6 (abP _ _ _ _ ho.n ho2.n) ?_ ?_))
 | ((with_reducible show bM _ _ _ _ _ _ _ _ _ _); first
 | (refine aV (k := 113) JJ (fun hg => Yg _ _ _ _ ho.m ho2.m) ?_ ?_))
 | ((fail_if_success (with_reducible show AW _ _ _ _)); simp (maxSteps := 2000000) only [go_sem, reduceIte, reduceCtorEq, xA, xL, xD, xE, xM, xS, xB, Tryz.f64, Go.Sea.oK])
 | ((with_reducible refine hK _ ?_); clear hK K))
  all_goals (first | (unfold uM; refine Bool.eq_iff_iff.2 ?_; simp only [decide_eq_true_eq, Bool.and_eq_true, beq_iff_eq, reduceCtorEq, false_iff]; omega) | (unfold uM; rw [decide_eq_true (by omega)]; rfl))
end Go.Proofs.YtcfechepbamhkaaGreat
