/- Part 7 of 16: contracts of functions and plain laws for the root text. No condition. -/
import Derived.Test.YtcfechepbamhkaaGreatY01
import Derived.Test.YtcfechepbamhkaaGreatY02
import Derived.Test.YtcfechepbamhkaaGreatY03
import Derived.Test.YtcfechepbamhkaaGreatY04
import Derived.Test.YtcfechepbamhkaaGreatY05
import Derived.Test.YtcfechepbamhkaaGreatY06
set_option linter.unusedVariables false
set_option linter.unusedSimpArgs false
set_option maxRecDepth 100000
set_option maxHeartbeats 4000000
namespace Go.Proofs.YtcfechepbamhkaaGreat
open Go.RowKit Go.Sea
open Nat renaming reduceAdd -> xA, reduceLT -> xL, reduceLeDiff -> xD, reduceEqDiff -> xE, reduceMul -> xM, reduceSub -> xS, reduceBEq -> xB
theorem ad8 : boD Tryz.prog 216 = false := by kernel_rfl
theorem aml : boD Tryz.prog 4 = true := by kernel_rfl
theorem agn : eqD Tryz.prog 216 = some (true, [.int .i64, .int .i64]) := by kernel_rfl
theorem Uq : aK Tryz.prog 233 = true := by kernel_rfl
theorem WL : aK Tryz.prog 234 = true := by kernel_rfl
theorem um : aK Tryz.prog 240 = true := by kernel_rfl
theorem IX : aK Tryz.prog 241 = true := by kernel_rfl
theorem agL : fE Tryz.prog 216 = true := by kernel_rfl
theorem aiq : fE Tryz.prog 60 = true := by kernel_rfl
theorem Yx : dF Tryz.prog 216 0 = some 0 := by kernel_rfl
theorem XZ : dF Tryz.prog 216 1 = some 1 := by kernel_rfl
theorem ac6 : dz Tryz.prog 60 0 = some (0, 1) := by kernel_rfl
theorem aaM : dz Tryz.prog 60 1 = some (1, 1) := by kernel_rfl
theorem aeW : lG Tryz.prog 216 = some (true, 2) := by kernel_rfl
theorem af5 : fJ Tryz.prog 216 = some [.iv (.g (.int .i64 0)), .iv (.g (.int .i64 0))] := by kernel_rfl
attribute [go_sem] ad8 aml agn Uq WL um IX agL aiq Yx XZ ac6 aaM aeW af5
theorem Lx {M x y u v : Int} (h : (-M <= x /\ x <= M) /\ (-M <= y /\ y <= M)) (g : (-M <= u /\ u <= M) /\ (-M <= v /\ v <= M)) : (-(M * M) <= x * v /\ x * v <= M * M) /\ (-(M * M) <= y * u /\ y * u <= M * M) /\ (-(M * M) <= x * u /\ x * u <= M * M) /\ (-(M * M) <= y * v /\ y * v <= M * M) :=
  ⟨mR h.1 g.2, mR h.2 g.1, mR h.1 g.1, mR h.2 g.2⟩
def f2 (a b : Int) (i o : Nat) : IV := .g (.int .i64 (if i = 0 then a else b))
theorem SH (x y u v : Int) (h1 : -4000000000000 <= x * v /\ x * v <= 4000000000000) (h2 : -4000000000000 <= y * u /\ y * u <= 4000000000000) : aA Tryz.prog 241 [.agg [.g (.int .i64 (x)), .g (.int .i64 (y))], .agg [.g (.int .i64 (u)), .g (.int .i64 (v))]] (.t (.one (.g (.int .i64 (x * v - y * u))))) := by
  refine ak Tryz.func241 rfl (by rw [Tryz.ntmps241]; simp) ?_
  simp only [Tryz.ntmps241, zM, PT.tv, au, Nat.zero_add, Nat.reduceAdd]
  repeat' (first
 | ((with_reducible show AW _ _ _ _); first
 | (with_reducible first | refine aS (fun K hK => ?_) | refine aT ?_)
 | (first
 | (with_reducible first | refine aP 0 [0,1] ?_ | refine aP 1 [2,3] ?_)))
 | (with_reducible refine aJ ?_)
 | ((fail_if_success (with_reducible show AW _ _ _ _)); simp (maxSteps := 2000000) only [go_sem, reduceIte, reduceCtorEq, xA, xL, xD, xE, xM, xS, xB, Tryz.f241])
 | ((fail_if_success (with_reducible show AW _ _ _ _)); simp (disch := omega) only [aY, jy, jH])
 | ((with_reducible refine hK _ ?_); clear hK K))
theorem Fv (x y : Int) : aA Tryz.prog 240 [.agg [.g (.int .i64 (x)), .g (.int .i64 (y))]] (.t (.one (.g (.bool (decide (0 < y \/ (y = 0 /\ 0 < x))))))) := by
  refine ak Tryz.func240 rfl (by rw [Tryz.ntmps240]; simp) ?_
  simp only [Tryz.ntmps240, zM, PT.tv, au, Nat.zero_add, Nat.reduceAdd]
  repeat' (first
 | ((with_reducible show AW _ _ _ _); first
 | (with_reducible first | refine aS (fun K hK => ?_) | refine aT ?_)
 | (first
 | (with_reducible first | refine aP 0 [0] ?_ | refine aP 1 [1] ?_)))
 | (((with_reducible refine And.intro ?_ ?_)); focus (first | (simp; done) | (simp; omega)))
 | (with_reducible refine aJ ?_)
 | ((fail_if_success (with_reducible show AW _ _ _ _)); simp (maxSteps := 2000000) only [go_sem, reduceIte, reduceCtorEq, xA, xL, xD, xE, xM, xS, xB, Tryz.f240])
 | ((with_reducible refine hK _ ?_); clear hK K))
  all_goals ((try refine Bool.eq_iff_iff.2 ?_); (simp only [Bool.and_eq_true, Bool.or_eq_true, Bool.not_eq_true', decide_eq_true_eq, decide_eq_false_iff_not, bne_iff_ne, beq_iff_eq, ne_eq, ge_iff_le, gt_iff_lt, cond_eq_ite, iff_self, eq_self]; done))
def DF (x y : Int) : Bool := decide (((-1000000 <= x /\ x <= 1000000) /\ (-1000000 <= y /\ y <= 1000000)) /\ ¬ (x = 0 /\ y = 0))
theorem adD (x y : Int) : aA Tryz.prog 225 [.agg [.g (.int .i64 (x)), .g (.int .i64 (y))]] (.t (.one (.g (.bool (DF x y))))) := by
  refine ak Tryz.func225 rfl (by rw [Tryz.ntmps225]; simp) ?_
  simp only [Tryz.ntmps225, zM, PT.tv, au, Nat.zero_add, Nat.reduceAdd]
  repeat' (first
 | ((with_reducible show AW _ _ _ _); first
 | (with_reducible first | refine aS (fun K hK => ?_) | refine aT ?_)
 | (first
 | (with_reducible first | refine aP 0 [0] ?_ | refine aP 1 [1] ?_)))
 | (with_reducible refine aJ ?_)
 | ((fail_if_success (with_reducible show AW _ _ _ _)); simp (maxSteps := 2000000) only [go_sem, reduceIte, reduceCtorEq, xA, xL, xD, xE, xM, xS, xB, Tryz.f225, DF])
 | ((with_reducible refine hK _ ?_); clear hK K))
  all_goals ((refine Bool.eq_iff_iff.2 ?_; simp only [Bool.and_eq_true, Bool.not_eq_true', Bool.and_eq_false_iff, beq_eq_false_iff_ne, decide_eq_true_eq, ne_eq, ge_iff_le]; omega))
def upB (x y : Int) : Bool := decide (0 < y \/ (y = 0 /\ 0 < x))
def rA (x y u v : Int) : Int := if upB x y = upB u v then - RY (x * v - y * u) else if upB x y = true then -1 else 1
theorem agE (x y u v : Int) : rA x y u v = -1 \/ rA x y u v = 0 \/ rA x y u v = 1 := by
  unfold rA
  have := adQ (x * v - y * u)
  split <;> first | omega | (split <;> omega)
def V8 (fx fy tx ty vx vy : Int) : Bool := if rA fx fy tx ty = -1 then decide (rA fx fy vx vy <= 0) && !decide (rA tx ty vx vy <= 0) else if rA fx fy tx ty = 1 then decide (rA fx fy vx vy <= 0) || !decide (rA tx ty vx vy <= 0) else true
theorem J7 (x y u v : Int) (h1 : -4000000000000 <= x * v /\ x * v <= 4000000000000) (h2 : -4000000000000 <= y * u /\ y * u <= 4000000000000) : aA Tryz.prog 226 [.agg [.g (.int .i64 (x)), .g (.int .i64 (y))], .agg [.g (.int .i64 (u)), .g (.int .i64 (v))]] (.t (.one (.g (.int .i64 (rA x y u v))))) := by
  refine ak Tryz.func226 rfl (by rw [Tryz.ntmps226]; simp) ?_
  simp only [Tryz.ntmps226, zM, PT.tv, au, Nat.zero_add, Nat.reduceAdd]
  repeat' (first
 | ((with_reducible show AW _ _ _ _); first
 | (with_reducible first | refine aS (fun K hK => ?_) | refine aI ?_ | refine aT ?_ | refine aC ?_ | refine aB ?_)
 | (first
 | (with_reducible refine aP 0 [0,1] ?_)
 | ((with_reducible refine aR (c := Code.region 1 _ true) [2,3] ?_); (with_reducible refine aD ?_ ?_ ?_ ?_); (focus kernel_rfl); (focus kernel_rfl); (focus kernel_rfl))
 | (with_reducible first | refine aP 2 [2] ?_ | refine aP 3 [] ?_ | refine aP 4 [] ?_ | refine aP 5 [2,3] ?_ | refine aP 6 [] ?_ | refine aP 7 [2,3] ?_ | refine aP 8 [] ?_ | refine aP 9 [] ?_)))
 | ((first | (with_reducible refine And.intro ?_ ?_) | (with_reducible refine Need.mk ?_)); focus (exact True.intro))
 | (with_reducible refine aJ ?_)
 | ((with_reducible show bL _ _ _ _ _ _); first
 | ((with_reducible refine aM ?_ ?_) <;> (intro hc; (try simp only [zB, zC, reduceCtorEq] at hc); (try (exfalso; contradiction)))))
 | ((with_reducible refine And.intro ?_ ?_); focus ((with_reducible show gV _ _ _ = true); kernel_rfl))
 | ((with_reducible show aW _ _ _ _ _ _ _ _ _ _); first
 | (refine aF (k := 240) um (Fv x y) ?_ ?_)
 | (refine aF (k := 241) IX (SH x y u v h1 h2) ?_ ?_))
 | ((with_reducible show eT _ _ _ _ _ _ _ _ _ _ _ _ _); first
 | (refine dh (k := 240) um (Fv x y) ?_ ?_)
 | (refine dh (k := 240) um (Fv u v) ?_ ?_))
 | ((fail_if_success (with_reducible show AW _ _ _ _)); simp (maxSteps := 2000000) only [go_sem, reduceIte, reduceCtorEq, xA, xL, xD, xE, xM, xS, xB, Tryz.f226])
 | ((with_reducible refine hK _ ?_); clear hK K))
  all_goals (first | (unfold rA upB RY; simp_all; done) | (rw [rA, if_neg (by simp only [upB]; assumption), if_pos (by simp only [upB, decide_eq_true_eq]; assumption)]) | (rw [rA, if_neg (by simp only [upB]; assumption), if_neg (by simp only [upB, decide_eq_true_eq]; assumption)]) | (rw [rA, if_pos (by simp only [upB]; assumption)]; unfold RY; (repeat' split) <;> omega))
end Go.Proofs.YtcfechepbamhkaaGreat
set_option maxRecDepth 100000
set_option maxHeartbeats 4000000
namespace Go.Proofs.YtcfechepbamhkaaGreat
open Go.RowKit Go.Sea
open Nat renaming reduceAdd -> xA, reduceLT -> xL, reduceLeDiff -> xD, reduceEqDiff -> xE, reduceMul -> xM, reduceSub -> xS, reduceBEq -> xB
theorem ahZ : Gl Tryz.prog 62 = none := by kernel_rfl
theorem Iu : aK Tryz.prog 204 = true := by kernel_rfl
theorem Ay : aK Tryz.prog 205 = true := by kernel_rfl
theorem UD : aK Tryz.prog 213 = true := by kernel_rfl
theorem Yh : aK Tryz.prog 214 = true := by kernel_rfl
theorem Bf : aK Tryz.prog 225 = true := by kernel_rfl
theorem sW : aK Tryz.prog 226 = true := by kernel_rfl
theorem XI : aK Tryz.prog 232 = true := by kernel_rfl
theorem akU : wK Tryz.prog 62 = some true := by kernel_rfl
theorem Xm : dF Tryz.prog 174 0 = some 0 := by kernel_rfl
theorem XR : dF Tryz.prog 174 1 = some 2 := by kernel_rfl
theorem XA : dF Tryz.prog 174 2 = some 4 := by kernel_rfl
theorem X4 : dF Tryz.prog 174 3 = some 5 := by kernel_rfl
theorem ajJ : qV Tryz.prog 62 = some (6, 48, 174) := by kernel_rfl
theorem ad6 : lG Tryz.prog 174 = some (true, 6) := by kernel_rfl
theorem ahu : fJ Tryz.prog 174 = some [.iv (.g (.int .i64 0)), .iv (.g (.int .i64 0)), .iv (.g (.int .i64 0)), .iv (.g (.int .i64 0)), .iv (.g (.int .i64 0)), .iv (.g (.int .i64 0))] := by kernel_rfl
attribute [go_sem] ahZ Iu Ay UD Yh Bf sW XI akU Xm XR XA X4 ajJ ad6 ahu
def OL (a b c d k r : Int) : Bool := decide (DF a b = true /\ DF c d = true /\ (1 <= k /\ k <= 3) /\ (1 <= r /\ r <= 3000000))
def aeh (S : Nat -> Nat -> Int) (i : Nat) : Bool := OL (S i 0) (S i 1) (S i 2) (S i 3) (S i 4) (S i 5)
def OU (S : Nat -> Nat -> Int) (i j : Nat) : Bool := V8 (S i 0) (S i 1) (S i 2) (S i 3) (S j 0) (S j 1)
def Je (S : Nat -> Nat -> Int) (i : Nat) : Prop := aeh S i = true /\ ∀ j, j < i -> OU S i j = false /\ OU S j i = false
instance (S : Nat -> Nat -> Int) (i : Nat) : Decidable (Je S i) := by unfold Je; infer_instance
def uI (n : Nat) (S : Nat -> Nat -> Int) : Bool := decide (n <= 12 /\ ∀ i, i < n -> Je S i)
theorem ab0 {n : Nat} {S : Nat -> Nat -> Int} {i : Nat} (hi : (i : Int) < n) (h : OL (S i 0) (S i 1) (S i 2) (S i 3) (S i 4) (S i 5) = false) : false = uI n S :=
  (decide_eq_false fun g => by have := (g.2 i (by omega)).1; unfold aeh at this; rw [h] at this; cases this).symm
theorem abO {n : Nat} {S : Nat -> Nat -> Int} {i j : Nat} (hi : (i : Int) < n) (hj : (j : Int) < i) (h : V8 (S i 0) (S i 1) (S i 2) (S i 3) (S j 0) (S j 1) = true) : false = uI n S :=
  (decide_eq_false fun g => by have := ((g.2 i (by omega)).2 j (by omega)).1; unfold OU at this; rw [h] at this; cases this).symm
theorem ab4 {n : Nat} {S : Nat -> Nat -> Int} {i j : Nat} (hi : (i : Int) < n) (hj : (j : Int) < i) (h : V8 (S j 0) (S j 1) (S j 2) (S j 3) (S i 0) (S i 1) = true) : false = uI n S :=
  (decide_eq_false fun g => by have := ((g.2 i (by omega)).2 j (by omega)).2; unfold OU at this; rw [h] at this; cases this).symm
theorem afT {n i : Nat} {S : Nat -> Nat -> Int} (hi : i <= n) (h : (n : Int) <= i) (g : ∀ i', i' < i -> Je S i') : decide ((n : Int) <= 12) = uI n S := by
  unfold uI; refine decide_eq_decide.2 ⟨fun k => ⟨by omega, fun j hj => g j (by omega)⟩, fun k => by omega⟩
theorem MF {a b c d k r : Int} (h : OL a b c d k r = true) : DF a b = true := (of_decide_eq_true h).1
theorem adZ {a b c d k r : Int} (h : OL a b c d k r = true) : DF c d = true := (of_decide_eq_true h).2.1
theorem Uy (x y u v p q z w : Int) (d1 : DF x y = true) (d2 : DF u v = true) (d3 : DF z w = true) : aA Tryz.prog 205 [.agg [.g (.int .i64 (x)), .g (.int .i64 (y)), .g (.int .i64 (u)), .g (.int .i64 (v)), .g (.int .i64 (p)), .g (.int .i64 (q))], .agg [.g (.int .i64 (z)), .g (.int .i64 (w))]] (.t (.one (.g (.bool (V8 x y u v z w))))) := by
  simp only [DF, decide_eq_true_eq] at d1 d2 d3
  have k1 := Lx (M := 1000000) d1.1 d2.1
  have k2 := Lx (M := 1000000) d1.1 d3.1
  have k3 := Lx (M := 1000000) d2.1 d3.1
  have v1 := agE x y u v
  refine ak Tryz.func205 rfl (by rw [Tryz.ntmps205]; simp) ?_
  simp only [Tryz.ntmps205, zM, PT.tv, au, Nat.zero_add, Nat.reduceAdd]
  repeat' (first
 | ((with_reducible show AW _ _ _ _); first
 | (with_reducible first | refine aS (fun K hK => ?_) | refine aI ?_ | refine aT ?_ | refine aC ?_ | refine aB ?_)
 | (first
 | (with_reducible refine aP 0 [0,1] ?_)
 | ((with_reducible refine aR (c := Code.region 1 _ true) [2,3] ?_); (with_reducible refine aD ?_ ?_ ?_ ?_); (focus kernel_rfl); (focus kernel_rfl); (focus kernel_rfl))
 | ((with_reducible refine aR (c := Code.region 2 _ true) [3,5,6] ?_); (with_reducible refine aD ?_ ?_ ?_ ?_); (focus kernel_rfl); (focus kernel_rfl); (focus kernel_rfl))
 | (with_reducible first | refine aP 3 [5,6,7,8] ?_ | refine aP 4 [7,8,23] ?_ | refine aP 5 [7,8] ?_ | refine aP 6 [7,8,23] ?_ | refine aP 7 [7,8] ?_ | refine aP 8 [] ?_)))
 | ((first | (with_reducible refine And.intro ?_ ?_) | (with_reducible refine Need.mk ?_)); focus (first | exact True.intro | (simp; done)))
 | (with_reducible refine aJ ?_)
 | ((with_reducible show bL _ _ _ _ _ _); first
 | ((with_reducible refine aM ?_ ?_) <;> (intro hc; (try simp only [zB, zC, reduceCtorEq] at hc); (try (exfalso; contradiction)))))
 | ((with_reducible refine And.intro ?_ ?_); focus ((with_reducible show gV _ _ _ = true); kernel_rfl))
 | ((with_reducible show aW _ _ _ _ _ _ _ _ _ _); (refine aF (k := 226) sW (J7 x y u v (by omega) (by omega)) ?_ ?_))
 | ((with_reducible show eT _ _ _ _ _ _ _ _ _ _ _ _ _); first
 | (refine dh (k := 226) sW (J7 x y z w (by omega) (by omega)) ?_ ?_)
 | (refine dh (k := 226) sW (J7 u v z w (by omega) (by omega)) ?_ ?_))
 | ((fail_if_success (with_reducible show AW _ _ _ _)); simp (maxSteps := 2000000) only [go_sem, reduceIte, reduceCtorEq, xA, xL, xD, xE, xM, xS, xB, Tryz.f205])
 | ((with_reducible refine hK _ ?_); clear hK K))
  all_goals ((unfold V8; simp_all; done))
theorem aiW (a b c d k r : Int) : aA Tryz.prog 204 [.agg [.g (.int .i64 (a)), .g (.int .i64 (b)), .g (.int .i64 (c)), .g (.int .i64 (d)), .g (.int .i64 (k)), .g (.int .i64 (r))]] (.t (.one (.g (.bool (OL a b c d k r))))) := by
  refine ak Tryz.func204 rfl (by rw [Tryz.ntmps204]; simp) ?_
  simp only [Tryz.ntmps204, zM, PT.tv, au, Nat.zero_add, Nat.reduceAdd]
  repeat' (first
 | ((with_reducible show AW _ _ _ _); first
 | (with_reducible first | refine aS (fun K hK => ?_) | refine aT ?_)
 | (first
 | (with_reducible first | refine aP 0 [0] ?_ | refine aP 1 [1] ?_)))
 | (((with_reducible refine Need.mk ?_)); focus (first | exact True.intro | (intro _; (with_reducible assumption))))
 | (with_reducible refine aJ ?_)
 | ((with_reducible show aW _ _ _ _ _ _ _ _ _ _); (refine aF (k := 225) Bf (adD a b) ?_ ?_))
 | ((with_reducible show bM _ _ _ _ _ _ _ _ _ _); (refine aO (k := 225) Bf (fun hg => adD c d) ?_ ?_))
 | ((fail_if_success (with_reducible show AW _ _ _ _)); simp (maxSteps := 2000000) only [go_sem, reduceIte, reduceCtorEq, xA, xL, xD, xE, xM, xS, xB, Tryz.f204])
 | ((with_reducible refine hK _ ?_); clear hK K))
  all_goals ((unfold OL; refine Bool.eq_iff_iff.2 ?_; simp only [Bool.and_eq_true, decide_eq_true_eq, ge_iff_le, and_assoc]; done))
theorem agM (n : Nat) (S : Nat -> Nat -> Int) (hn : n <= 9223372036854775807) : aA Tryz.prog 171 [.one (.lst 6 n (dY S))] (.t (.one (.g (.bool (uI n S))))) := by
  refine ak Tryz.func171 rfl (by rw [Tryz.ntmps171]; simp) ?_
  simp only [Tryz.ntmps171, zM, PT.tv, au, Nat.zero_add, Nat.reduceAdd]
  repeat' (first
 | ((with_reducible show AW _ _ _ _); first
 | (with_reducible first | refine aS (fun K hK => ?_) | refine aI ?_ | refine aX ?_ | refine aT ?_ | refine aC ?_ | refine aB ?_)
 | (first
 | (with_reducible first | refine aP 0 [0] ?_ | refine aP 1 [0] ?_ | refine aP 2 [0,7,8,9] ?_ | refine aP 3 [0,7,8,9] ?_ | refine aP 4 [0,3,4,7,8,9] ?_ | refine aP 5 [] ?_ | refine aP 6 [0,3,4,7,8,9] ?_ | refine aP 7 [0,4,7,8,9,19,20,21] ?_ | refine aP 8 [0,4,7,8,9,19,20,21] ?_ | refine aP 9 [0,4,6,7,8,9,19,20,21] ?_ | refine aP 10 [] ?_ | refine aP 11 [0,4,7,8,9,19,20,21] ?_ | refine aP 12 [0,7,8,9] ?_ | refine aP 13 [0] ?_))
 | ((with_reducible show AW _ (Code.loop _) _ _); first
 | ((with_reducible refine aL (c := (Code.seq (Code.region 2 _ _) _)) (ι := Nat) [0,7,8] (fun i => [(9, iA .i64 (i : Int))]) (fun i => []) (fun i => i <= n /\ (∀ i', i' < i -> Je S i')) (fun i => n - i) 0 ?lg2 ?l12 ?l22 ?li2 ?lr2); (case' lg2 => rintro i _); (case' li2 => try (exact ⟨Nat.zero_le _, fun i hi => absurd hi (Nat.not_lt_zero _)⟩)); (case' lr2 => rintro i ⟨hi, hai⟩ KR hR2; simp only [bD, dD, hset, lk, if_true, if_false, xE, reduceIte, zN]))
 | ((with_reducible refine aL (c := (Code.seq (Code.region 7 _ _) _)) (ι := Nat) [0,4,7,8,9,19,20] (fun j => [(21, iA .i64 (j : Int))]) (fun j => []) (fun j => j <= i /\ aeh S i = true /\ (∀ j', j' < j -> OU S i j' = false /\ OU S j' i = false)) (fun j => i - j) 0 ?lg7 ?l17 ?l27 ?li7 ?lr7); (case' lg7 => rintro j _); (case' li7 => try (exact ⟨Nat.zero_le _, by assumption, fun i hi => absurd hi (Nat.not_lt_zero _)⟩)); (case' lr7 => rintro j ⟨hj, hsi, haj⟩ KR hR7; simp only [bD, dD, hset, lk, if_true, if_false, xE, reduceIte, zN]))))
 | ((first | (with_reducible refine And.intro ?_ ?_) | (with_reducible refine Need.mk ?_)); focus (first | exact True.intro | omega | (intro _; (with_reducible assumption)) | (simp; done)))
 | (with_reducible refine aJ ?_)
 | ((with_reducible show bL _ _ _ _ _ _); first
 | ((with_reducible refine aM ?_ ?_) <;> (intro hc; (try simp only [zB, zC, reduceCtorEq] at hc); (try (exfalso; contradiction)))))
 | ((with_reducible show aW _ _ _ _ _ _ _ _ _ _); first
 | (refine aF (k := 204) Iu (aiW _ _ _ _ _ _) ?_ ?_)
 | (refine aF (k := 205) Ay (Uy _ _ _ _ _ _ _ _ (MF hsi) (adZ hsi) (MF (hai _ (by omega)).1)) ?_ ?_))
 | ((with_reducible show bM _ _ _ _ _ _ _ _ _ _); (refine aO (k := 205) Ay (fun hg => Uy _ _ _ _ _ _ _ _ (MF (hai _ (by omega)).1) (adZ (hai _ (by omega)).1) (MF hsi)) ?_ ?_))
 | ((with_reducible refine hR2 _ (i + 1) ?_); (try clear hR2 KR))
 | ((with_reducible refine hR7 _ (j + 1) ?_); (try clear hR7 KR))
 | ((with_reducible refine Told.mk ?_); simp only [go_sem, reduceIte, reduceCtorEq, xA, xL, xD, xE, xM, xS, xB, dY] <;> ((((try simp (disch := omega) only [aY, Int.natCast_add, Int.cast_ofNat_Int, and_true, true_and, and_self]); (repeat' (first | omega | (with_reducible refine And.intro ?_ ?_) | (exact all_succ (by assumption) (by assumption)) | ((exact all_succ (by assumption) ⟨by assumption, fun j hj => haj j (by omega)⟩)))); done))))
 | ((fail_if_success (with_reducible show AW _ _ _ _)); simp (maxSteps := 2000000) only [go_sem, reduceIte, reduceCtorEq, xA, xL, xD, xE, xM, xS, xB, Tryz.f171, dY])
 | ((with_reducible refine hK _ ?_); clear hK K)
 | (with_reducible apply_assumption -exfalso only [*]))
  all_goals (first | exact ab0 (by assumption) (by assumption) | exact Or.elim (by assumption) (abO (by omega) (by omega)) (ab4 (by omega) (by omega)) | exact afT (by assumption) (by assumption) (by assumption))
end Go.Proofs.YtcfechepbamhkaaGreat
set_option maxRecDepth 100000
set_option maxHeartbeats 4000000
namespace Go.Proofs.YtcfechepbamhkaaGreat
open Go.RowKit Go.Sea
open Nat renaming reduceAdd -> xA, reduceLT -> xL, reduceLeDiff -> xD, reduceEqDiff -> xE, reduceMul -> xM, reduceSub -> xS, reduceBEq -> xB
theorem ahv : Gl Tryz.prog 209 = none := by kernel_rfl
theorem ah4 : Gl Tryz.prog 36 = none := by kernel_rfl
theorem Gp : aK Tryz.prog 221 = true := by kernel_rfl
theorem Ja : aK Tryz.prog 222 = true := by kernel_rfl
theorem Sz : aK Tryz.prog 228 = true := by kernel_rfl
theorem U2 : aK Tryz.prog 229 = true := by kernel_rfl
theorem Vo : aK Tryz.prog 230 = true := by kernel_rfl
theorem Sq : aK Tryz.prog 242 = true := by kernel_rfl
theorem ahd : wK Tryz.prog 209 = some true := by kernel_rfl
theorem ain : wK Tryz.prog 36 = some true := by kernel_rfl
theorem afI : qV Tryz.prog 209 = some (2, 16, 60) := by kernel_rfl
theorem aj9 : qV Tryz.prog 36 = some (1, 8, 3) := by kernel_rfl
theorem ame : fJ Tryz.prog 3 = some [.iv (.g (.int .i64 0))] := by kernel_rfl
attribute [go_sem] ahv ah4 Gp Ja Sz U2 Vo Sq ahd ain afI aj9 ame
def orV (a b : Int) : Int := if a = 0 then b else a
def TL (x y u v : Int) : Int := orV (if x < u then -1 else if u < x then 1 else 0) (if y < v then -1 else if v < y then 1 else 0)
theorem XW (a b : Int) (o : Nat) : f2 a b 0 o = .g (.int .i64 a) := rfl
theorem Tj (a b : Int) (o : Nat) : f2 a b 1 o = .g (.int .i64 b) := rfl
theorem MS (x y u v : Int) : (TL x y u v >= 0) ↔ ¬ (x < u \/ (x = u /\ y < v)) := by
  unfold TL orV
  repeat' split
  all_goals omega
theorem alx (a b : Int) : aA Tryz.prog 221 [.one (.lst 1 2 (f2 a b))] (.t (.one (.g (.int .i64 (orV a b))))) := by
  refine ak Tryz.func221 rfl (by rw [Tryz.ntmps221]; simp) ?_
  simp only [Tryz.ntmps221, zM, PT.tv, au, Nat.zero_add, Nat.reduceAdd]
  repeat' (first
 | ((with_reducible show AW _ _ _ _); first
 | (with_reducible first | refine aS (fun K hK => ?_) | refine aI ?_ | refine aX ?_ | refine aT ?_ | refine aC ?_ | refine aB ?_)
 | (first
 | (with_reducible first | refine aP 0 [0] ?_ | refine aP 1 [0] ?_ | refine aP 2 [0,3] ?_ | refine aP 3 [3,6,7,8] ?_ | refine aP 4 [3,6,7,8] ?_ | refine aP 5 [3,5,6,7,8] ?_ | refine aP 6 [5] ?_ | refine aP 7 [3,6,7,8] ?_ | refine aP 8 [3] ?_))
 | ((with_reducible show AW _ (Code.loop _) _ _); first
 | ((with_reducible refine aL (c := (Code.seq (Code.region 3 _ _) _)) (ι := Nat) [3,6,7] (fun i => [(8, iA .i64 (i : Int))]) (fun i => []) (fun i => i <= 2 /\ (0 < i -> a = 0) /\ (1 < i -> b = 0)) (fun i => 2 - i) 0 ?lg3 ?l13 ?l23 ?li3 ?lr3); (case' lg3 => rintro i _); (case' li3 => try (exact ⟨by omega, by omega, by omega⟩)); (case' lr3 => rintro i ⟨hi, hx1, hx2⟩ KR hR3; (rcases (by omega : i = 0 \/ i = 1 \/ i = 2) with hz | hz | hz <;> subst hz); simp only [bD, dD, hset, lk, if_true, if_false, xE, reduceIte, zN, XW, Tj]))))
 | (((with_reducible refine And.intro ?_ ?_)); focus (omega))
 | (with_reducible refine aJ ?_)
 | ((with_reducible show bL _ _ _ _ _ _); first
 | ((with_reducible refine aM ?_ ?_) <;> (intro hc; (try simp only [zB, zC, reduceCtorEq] at hc); (try (exfalso; contradiction)))))
 | ((with_reducible refine hR3 _ 1 ?_); (try clear hR3 KR); (with_reducible refine Told.mk ?_); simp only [go_sem, reduceIte, reduceCtorEq, xA, xL, xD, xE, xM, xS, xB, XW, Tj]; ((try simp (disch := omega) only [aY, Int.natCast_add, Int.cast_ofNat_Int, and_true, true_and, and_self]); (repeat' (omega )); done))
 | ((with_reducible refine hR3 _ 2 ?_); (try clear hR3 KR); (with_reducible refine Told.mk ?_); simp only [go_sem, reduceIte, reduceCtorEq, xA, xL, xD, xE, xM, xS, xB, XW, Tj]; (((try simp (disch := omega) only [aY, Int.natCast_add, Int.cast_ofNat_Int, and_true, true_and, and_self]); (repeat' (omega )); done)))
 | ((with_reducible refine Told.mk ?_); simp only [go_sem, reduceIte, reduceCtorEq, xA, xL, xD, xE, xM, xS, xB, XW, Tj] <;> ((((try simp (disch := omega) only [aY, Int.natCast_add, Int.cast_ofNat_Int, and_true, true_and, and_self]); (repeat' (exact True.intro )); done))))
 | ((fail_if_success (with_reducible show AW _ _ _ _)); simp (maxSteps := 2000000) only [go_sem, reduceIte, reduceCtorEq, xA, xL, xD, xE, xM, xS, xB, Tryz.f221, XW, Tj])
 | ((with_reducible refine hK _ ?_); clear hK K)
 | (with_reducible apply_assumption -exfalso only [*]))
  all_goals ((unfold orV; first | (rw [if_pos (by omega)]; omega) | (rw [if_neg (by omega)]) | (split <;> omega)))
theorem alo (a b : Int) {F : Nat -> Nat -> IV} (hF : ∀ i o, i < 2 -> o < 1 -> (F i o).eqv (f2 a b i o)) : aA Tryz.prog 221 [.one (.lst 1 2 F)] (.t (.one (.g (.int .i64 (orV a b))))) :=
  (alx a b).eqv ⟨⟨rfl, rfl, hF⟩, trivial⟩ (PV.bG _)
theorem aas (x y u v : Int) : aA Tryz.prog 199 [.agg [.g (.int .i64 (x)), .g (.int .i64 (y))], .agg [.g (.int .i64 (u)), .g (.int .i64 (v))]] (.t (.one (.g (.int .i64 (TL x y u v))))) := by
  refine ak Tryz.func199 rfl (by rw [Tryz.ntmps199]; simp) ?_
  simp only [Tryz.ntmps199, zM, PT.tv, au, Nat.zero_add, Nat.reduceAdd]
  repeat' (first
 | ((with_reducible show eT _ _ _ _ _ _ _ _ _ _ _ _ _); first
 | ((refine dh (k := 221) Gp (alo (if x < u then -1 else if u < x then 1 else 0) (if y < v then -1 else if v < y then 1 else 0) ?_) ?_ ?_); (focus (intro i o hi ho; rcases i with _ | _ | i <;> first | omega | (rcases o with _ | o <;> first | omega | exact IV.bG _))))
 | (refine dh (k := 166) uU (K4 x u) ?_ ?_)
 | (refine dh (k := 166) uU (K4 y v) ?_ ?_))
 | ((with_reducible show AW _ _ _ _); first
 | (with_reducible first | refine aS (fun K hK => ?_) | refine aT ?_)
 | (first
 | (with_reducible refine aP 0 [0,1] ?_)
 | ((with_reducible refine aR (c := Code.region 1 _ true) [2,3] ?_); (with_reducible refine aD ?_ ?_ ?_ ?_); (focus kernel_rfl); (focus kernel_rfl); (focus kernel_rfl))))
 | ((first | (with_reducible refine And.intro ?_ ?_) | (with_reducible refine Need.mk ?_)); focus (exact True.intro))
 | (with_reducible refine aJ ?_)
 | ((with_reducible refine And.intro ?_ ?_); focus ((with_reducible show gV _ _ _ = true); kernel_rfl))
 | ((fail_if_success (with_reducible show AW _ _ _ _)); simp (maxSteps := 2000000) only [go_sem, reduceIte, reduceCtorEq, xA, xL, xD, xE, xM, xS, xB, Tryz.f199])
 | ((with_reducible refine hK _ ?_); clear hK K))
  all_goals (rfl)
theorem aa8 (ax ay bx by' cx cy : Int) : aA Tryz.prog 200 [.agg [.g (.int .i64 (ax)), .g (.int .i64 (ay))], .agg [.g (.int .i64 (bx)), .g (.int .i64 (by'))], .agg [.g (.int .i64 (cx)), .g (.int .i64 (cy))]] (.t (.one (.g (.int .i64 (tvV ax ay bx by' cx cy))))) := by
  refine ak Tryz.func200 rfl (by rw [Tryz.ntmps200]; simp) ?_
  simp only [Tryz.ntmps200, zM, PT.tv, au, Nat.zero_add, Nat.reduceAdd]
  repeat' (first
 | ((with_reducible show AW _ _ _ _); first
 | (with_reducible first | refine aS (fun K hK => ?_) | refine aT ?_)
 | (first
 | (with_reducible first | refine aP 0 [0,1,2] ?_ | refine aP 1 [3,4,5] ?_ | refine aP 2 [7] ?_)))
 | (((with_reducible refine Need.mk ?_)); focus (exact True.intro))
 | (with_reducible refine aJ ?_)
 | ((with_reducible show aW _ _ _ _ _ _ _ _ _ _); first
 | (refine aF (k := 222) Ja (ag4 _ _ _ _ _ _) ?_ ?_))
 | ((fail_if_success (with_reducible show AW _ _ _ _)); simp (maxSteps := 2000000) only [go_sem, reduceIte, reduceCtorEq, xA, xL, xD, xE, xM, xS, xB, Tryz.f200])
 | ((with_reducible refine hK _ ?_); clear hK K))
def Dx (n : Nat) (i : Int) : Nat := ((i + n) % n).toNat
theorem A9 (n : Nat) (P : Nat -> Nat -> Int) (i : Int) (hn : 0 < n /\ n <= 1000) (hi : -1 <= i /\ i <= 1000) : aA Tryz.prog 201 [.one (.lst 2 n (dY P)), .one (.g (.int .i64 (i)))] (.t (.agg [.g (.int .i64 (P (Dx n i) 0)), .g (.int .i64 (P (Dx n i) 1))])) := by
  have hm : 0 <= (i + (n : Int)) % (n : Int) /\ (i + (n : Int)) % (n : Int) < (n : Int) := ⟨Int.emod_nonneg _ (by omega), Int.emod_lt_of_pos _ (by omega)⟩
  refine ak Tryz.func201 rfl (by rw [Tryz.ntmps201]; simp) ?_
  simp only [Tryz.ntmps201, zM, PT.tv, au, Nat.zero_add, Nat.reduceAdd]
  repeat' (first
 | ((with_reducible show AW _ _ _ _); first
 | (with_reducible first | refine aS (fun K hK => ?_) | refine aT ?_)
 | (first
 | (with_reducible first | refine aP 0 [0,1] ?_ | refine aP 1 [0,1,4] ?_)))
 | (((with_reducible refine And.intro ?_ ?_)); focus (first | (with_reducible assumption) | omega))
 | (with_reducible refine aJ ?_)
 | ((fail_if_success (with_reducible show AW _ _ _ _)); simp (maxSteps := 2000000) only [go_sem, reduceIte, reduceCtorEq, xA, xL, xD, xE, xM, xS, xB, Tryz.f201, dY])
 | ((fail_if_success (with_reducible show AW _ _ _ _)); simp (disch := omega) only [aY, jy, jH])
 | ((with_reducible refine hK _ ?_); clear hK K))
  all_goals (exact ⟨rfl, rfl⟩)
end Go.Proofs.YtcfechepbamhkaaGreat
namespace Go.Proofs.YtcfechepbamhkaaGreat
open Go.RowKit Go.Sea
open Nat renaming reduceAdd -> xA, reduceLT -> xL, reduceLeDiff -> xD, reduceEqDiff -> xE, reduceMul -> xM, reduceSub -> xS, reduceBEq -> xB
theorem agC : Gl Tryz.prog 236 = some (2, 2) := by kernel_rfl
theorem tO : aK Tryz.prog 201 = true := by kernel_rfl
theorem BL : aK Tryz.prog 223 = true := by kernel_rfl
theorem IL : aK Tryz.prog 238 = true := by kernel_rfl
theorem aef : fE Tryz.prog 236 = true := by kernel_rfl
theorem WW : dz Tryz.prog 236 0 = some (0, 2) := by kernel_rfl
theorem Wz : dz Tryz.prog 236 1 = some (2, 2) := by kernel_rfl
theorem afv : qV Tryz.prog 236 = none := by kernel_rfl
theorem agI : lG Tryz.prog 209 = some (false, 1) := by kernel_rfl
theorem afl : lG Tryz.prog 236 = some (true, 4) := by kernel_rfl
theorem aek : fJ Tryz.prog 236 = some [.iv (.g (.int .i64 0)), .iv (.g (.int .i64 0)), .iv (.g (.int .i64 0)), .iv (.g (.int .i64 0))] := by kernel_rfl
attribute [go_sem] agC tO BL aef WW Wz afv agI afl aek
def nx (n i : Nat) : Nat := Dx n ((i : Int) + 1)
theorem Hq {n i : Nat} (h : 0 < n) : nx n i < n := by
  unfold nx Dx
  have h1 := Int.emod_nonneg ((i : Int) + 1 + n) (show (n : Int) ≠ 0 by omega)
  have h2 := Int.emod_lt_of_pos ((i : Int) + 1 + n) (show (0 : Int) < n by omega)
  omega
def twT (P : Nat -> Nat -> Int) (n i : Nat) : Int := P i 0 * P (nx n i) 1 - P i 1 * P (nx n i) 0
def Sk (P : Nat -> Nat -> Int) (n : Nat) : Nat -> Int
  | 0 => 0
  | i + 1 => Sk P n i + twT P n i
theorem D5 (P : Nat -> Nat -> Int) (n i : Nat) : Sk P n (i + 1) = Sk P n i + (P i 0 * P (nx n i) 1 - P i 1 * P (nx n i) 0) := rfl
theorem Tt {P : Nat -> Nat -> Int} {n i j : Nat} (h : pW P n) (hi : i < n) (hj : j < n) : (-1000000000000 <= P i 0 * P j 1 /\ P i 0 * P j 1 <= 1000000000000) /\ (-1000000000000 <= P i 1 * P j 0 /\ P i 1 * P j 0 <= 1000000000000) := by
  have a := JH.1 (h i hi)
  have b := JH.1 (h j hj)
  have h1 := mR (M := 1000000) a.1 b.2
  have h2 := mR (M := 1000000) a.2 b.1
  omega
theorem Ta {P : Nat -> Nat -> Int} {n : Nat} (h : pW P n) : ∀ i, i <= n -> -(2000000000000 * (i : Int)) <= Sk P n i /\ Sk P n i <= 2000000000000 * (i : Int)
  | 0, _ => by simp [Sk]
  | i + 1, hi => by
    have := Ta h i (by omega)
    have t := Tt h (show i < n by omega) (Hq (n := n) (i := i) (by omega))
    rw [D5]; omega
set_option maxRecDepth 100000 in
set_option maxHeartbeats 4000000 in
theorem abl (n : Nat) (P : Nat -> Nat -> Int) (hn : 0 < n /\ n <= 1000) (hp : pW P n) : aA Tryz.prog 203 [.one (.lst 2 n (dY P))] (.t (.one (.g (.int .i64 (Sk P n n))))) := by
  have hz : True := trivial
  refine ak Tryz.func203 rfl (by rw [Tryz.ntmps203]; simp) ?_
  simp only [Tryz.ntmps203, zM, PT.tv, au, Nat.zero_add, Nat.reduceAdd]
  repeat' (first
 | ((with_reducible show AW _ _ _ _); first
 | (with_reducible first | refine aS (fun K hK => ?_) | refine aI ?_ | refine aX ?_ | refine aT ?_ | refine aC ?_ | refine aB ?_)
 | ((refine eu (k := 238) rfl Tryz.func238 rfl IL (by rw [Tryz.ntmps238]; simp) ?_ ?_ (fun l hlne A B hA hB => ?_)); (focus (simp (maxSteps := 2000000) only [go_sem, reduceIte, reduceCtorEq, xA, xL, xD, xE, xM, xS, xB, Tryz.f203, Tryz.f238, Tryz.f223, dY, D5, nx, hz, Int.toNat_one, Int.reduceToNat]; try exact True.intro)); (focus (simp (maxSteps := 2000000) only [go_sem, reduceIte, reduceCtorEq, xA, xL, xD, xE, xM, xS, xB, Tryz.f203, Tryz.f238, Tryz.f223, dY, D5, nx, hz, Int.toNat_one, Int.reduceToNat]; try exact True.intro)); simp only [Tryz.ntmps238, List.map_cons, List.map_nil, LV.tv, au, yV, Nat.zero_add, Nat.reduceAdd]; clear hlne)
 | (with_reducible refine tZ (by assumption) ?_)
 | (first
 | (with_reducible first | refine aP (ops := #[⟨some 2, _, _, _, _, _⟩]) 0 [0,9] ?_ | refine aP (ops := #[⟨some 5, _, _, _, _, _⟩, _, _]) 0 [0,1] ?_ | refine aP (ops := #[⟨some 1, _, _, _, _, _⟩, _]) 0 [0] ?_ | refine aP 1 [0,1,5,6,7,9] ?_ | refine aP (ops := #[⟨some 6, _, _, _, _, _⟩, _]) 2 [0,3,9] ?_ | refine aP (ops := #[⟨some 9, _, _, _, _, _⟩, _, _, _, _, _]) 2 [0,1,5,6,7] ?_ | refine aP 3 [3,9] ?_)
 | ((with_reducible refine aR (c := Code.region 3 _ true) [0,1,3,4,5,6,7] ?_); (with_reducible refine lU 8 ?_ ?_ ?_ ?_ ?_); (focus kernel_rfl); (focus kernel_rfl); (focus kernel_rfl); (focus kernel_rfl))
 | (with_reducible first | refine aP (ops := #[⟨some 10, _, _, _, _, _⟩, _, _, _, _, _, _, _, _, _, _, _, _, _, _, _, _, _]) 4 [3,5,9] ?_ | refine aP (ops := #[⟨some 22, _, _, _, _, _⟩, _]) 4 [0,1,5,6,7] ?_ | refine aP 5 [3] ?_))
 | ((with_reducible show AW _ (Code.loop _) _ _); first
 | ((with_reducible refine aL (c := (Code.seq (Code.region 1 _ _) _)) (ι := Nat) [0,1,5,6] (fun i => [(7, iA .i64 (i : Int))]) (fun i => [(0, [.iv (.g (.int .i64 (Sk P n i)))])]) (fun i => i <= n) (fun i => n - i) 0 ?lg1 ?l11 ?l21 ?li1 ?lr1); (case' lg1 => rintro i _); (case' li1 => try exact Nat.zero_le _); (case' lr1 => rintro i hi KR hR1; (have hb := Ta hp i (by omega); have ht : i < n -> _ := fun hi' => Tt hp hi' (Hq (n := n) (i := i) (by omega)); simp only [nx] at ht; have ht2 := ht); simp only [bD, dD, hset, lk, if_true, if_false, xE, reduceIte, zN, D5, nx, hz, Int.toNat_one, Int.reduceToNat]))))
 | ((first | (with_reducible refine And.intro ?_ ?_) | (with_reducible refine Need.mk ?_)); focus (first | exact True.intro | omega | (simp (disch := omega) only [Bool.and_eq_true, Bool.or_eq_true, decide_eq_true_eq, bne_iff_ne, ne_eq] at *; omega)))
 | (with_reducible refine aJ ?_)
 | ((with_reducible show bL _ _ _ _ _ _); first
 | ((with_reducible refine aM ?_ ?_) <;> (intro hc; (try simp only [zB, zC, reduceCtorEq] at hc); (try (exfalso; contradiction)))))
 | ((with_reducible show ∀ _ : AS -> Prop, _ -> _); intro K hK)
 | ((with_reducible refine And.intro ?_ ?_); focus (((with_reducible show zk _ _ _ _ = true); kernel_rfl)))
 | ((with_reducible show aW _ _ _ _ _ _ _ _ _ _); ((refine dw (k := 223) Tryz.func223 rfl BL (by rw [Tryz.ntmps223]; simp) ?_ ?_ (fun K hK => ?_)); (focus (exact True.intro)); (focus ((simp [jo]; done))); simp only [Tryz.ntmps223, List.map_cons, List.map_nil, List.nil_append, List.cons_append, List.append_nil, LV.tv, au, Nat.zero_add, Nat.reduceAdd]))
 | ((with_reducible show eT _ _ _ _ _ _ _ _ _ _ _ _ _); first
 | (refine dh (k := 201) tO (A9 n P _ hn (by omega)) ?_ ?_))
 | ((with_reducible refine hR1 _ (i + 1) ?_); (try clear hR1 KR))
 | ((with_reducible refine Told.mk ?_); simp only [go_sem, reduceIte, reduceCtorEq, xA, xL, xD, xE, xM, xS, xB, dY, D5, nx, hz, Int.toNat_one, Int.reduceToNat] <;> ((((try simp (disch := omega) only [aY, Int.natCast_add, Int.cast_ofNat_Int, and_true, true_and, and_self]); (repeat' (first | omega | rfl)); done))))
 | ((fail_if_success (with_reducible show AW _ _ _ _)); simp (maxSteps := 2000000) only [go_sem, reduceIte, reduceCtorEq, xA, xL, xD, xE, xM, xS, xB, Tryz.f203, Tryz.f238, Tryz.f223, dY, D5, nx, hz, Int.toNat_one, Int.reduceToNat])
 | ((fail_if_success (with_reducible show AW _ _ _ _)); simp (disch := omega) only [aY, jy, jH])
 | ((with_reducible show aW _ _ _ _ _ _ (.yld _) _ _ _); (refine kU (by simp only [Eh, if_true]; exact rfl) ?_ (by simp) ?_ ?_ (fun K hK => ?_)); (focus (exact True.intro)); (focus (simp [mE])); (focus ((simp [jo]; done))); simp only [iT, gf, if_true, Nat.reduceAdd])
 | ((with_reducible refine hK _ ?_); clear hK K)
 | (with_reducible apply_assumption -exfalso only [*]))
  all_goals (((obtain rfl : i = n := by omega); rfl))
end Go.Proofs.YtcfechepbamhkaaGreat
namespace Go.Proofs.YtcfechepbamhkaaGreat
open Go.RowKit Go.Sea
open Nat renaming reduceAdd -> xA, reduceLT -> xL, reduceLeDiff -> xD, reduceEqDiff -> xE, reduceMul -> xM, reduceSub -> xS, reduceBEq -> xB
theorem GN : aK Tryz.prog 224 = true := by kernel_rfl
theorem aly : lG Tryz.prog 4 = some (false, 1) := by kernel_rfl
theorem alA : fJ Tryz.prog 4 = some [.iv (.g (.bool false))] := by kernel_rfl
attribute [go_sem] GN aly alA
def smP (P : Nat -> Nat -> Int) (n i k : Nat) : Prop := ((k : Int) <= (i : Int) + 1 \/ ((i : Int) = 0 /\ (k : Int) = (n : Int) - 1)) \/ mvB (P i 0) (P i 1) (P (nx n i) 0) (P (nx n i) 1) (P k 0) (P k 1) (P (nx n k) 0) (P (nx n k) 1) = false
instance (P : Nat -> Nat -> Int) (n i k : Nat) : Decidable (smP P n i k) := by unfold smP; infer_instance
def O7 (P : Nat -> Nat -> Int) (n : Nat) : Bool := decide (∀ i, i < n -> ∀ k, k < n -> smP P n i k)
theorem afQ {P : Nat -> Nat -> Int} {n i k : Nat} (h2 : mvB (P i 0) (P i 1) (P (Dx n ((i : Int) + 1)) 0) (P (Dx n ((i : Int) + 1)) 1) (P k 0) (P k 1) (P (Dx n ((k : Int) + 1)) 0) (P (Dx n ((k : Int) + 1)) 1) = true) (h1 : (i : Int) + 1 < k /\ ((i : Int) ≠ 0 \/ (k : Int) ≠ (n : Int) - 1)) (hi : (i : Int) < n) (hk : (k : Int) < n) : false = O7 P n := by
  refine (decide_eq_false fun g => ?_).symm
  have t := g i (by omega) k (by omega)
  unfold smP nx at t
  rw [h2] at t
  rcases t with t | t
  · omega
  · cases t
theorem ae3 {P : Nat -> Nat -> Int} {n i : Nat} (h : (n : Int) <= i) (g : ∀ i', i' < i -> ∀ k', k' < n -> smP P n i' k') : true = O7 P n := (decide_eq_true fun j hj k hk => g j (by omega) k hk).symm
set_option maxRecDepth 100000 in
set_option maxHeartbeats 4000000 in
theorem Vp (n : Nat) (P : Nat -> Nat -> Int) (hn : 0 < n /\ n <= 1000) : aA Tryz.prog 202 [.one (.lst 2 n (dY P))] (.t (.one (.g (.bool (O7 P n))))) := by
  have hz : True := trivial
  refine ak Tryz.func202 rfl (by rw [Tryz.ntmps202]; simp) ?_
  simp only [Tryz.ntmps202, zM, PT.tv, au, Nat.zero_add, Nat.reduceAdd]
  repeat' (first
 | ((with_reducible show AW _ _ _ _); first
 | (with_reducible first | refine aS (fun K hK => ?_) | refine aI ?_ | refine aX ?_ | refine aT ?_ | refine aC ?_ | refine aB ?_)
 | ((refine eu (k := 238) rfl Tryz.func238 rfl IL (by rw [Tryz.ntmps238]; simp) ?_ ?_ (fun l hlne A B hA hB => ?_)); (focus (simp (maxSteps := 2000000) only [go_sem, reduceIte, reduceCtorEq, xA, xL, xD, xE, xM, xS, xB, Tryz.f202, Tryz.f238, Tryz.f223, dY, nx, hz, Int.toNat_one, Int.reduceToNat]; try exact True.intro)); (focus (simp (maxSteps := 2000000) only [go_sem, reduceIte, reduceCtorEq, xA, xL, xD, xE, xM, xS, xB, Tryz.f202, Tryz.f238, Tryz.f223, dY, nx, hz, Int.toNat_one, Int.reduceToNat]; try exact True.intro)); simp only [Tryz.ntmps238, List.map_cons, List.map_nil, LV.tv, au, yV, Nat.zero_add, Nat.reduceAdd]; clear hlne)
 | (with_reducible refine tZ (by assumption) ?_)
 | (first
 | (with_reducible first | refine aP 0 [0,1,14,15,18,19] ?_ | refine aP (ops := #[⟨some 10, _, _, _, _, _⟩, _, _, _]) 1 [1,2,14,15,18,19] ?_ | refine aP (ops := #[⟨some 8, _, _, _, _, _⟩]) 1 [0,1,5,6,7] ?_ | refine aP (ops := #[⟨some 3, _, _, _, _, _⟩, _]) 1 [1] ?_ | refine aP (ops := #[⟨some 12, _, _, _, _, _⟩, _]) 2 [1,2,3,14,15,18,19] ?_ | refine aP (ops := #[⟨some 9, _, _, _, _, _⟩, _, _, _, _, _]) 2 [0,1,5,6,7] ?_ | refine aP 3 [1,2,3,14,15,18,19] ?_)
 | ((with_reducible refine aR (c := Code.region 3 _ true) [0,1,3,4,5,6,7] ?_); (with_reducible refine lU 8 ?_ ?_ ?_ ?_ ?_); (focus kernel_rfl); (focus kernel_rfl); (focus kernel_rfl); (focus kernel_rfl))
 | (with_reducible first | refine aP (ops := #[⟨some 5, _, _, _, _, _⟩, _]) 4 [1,2,3,4,14,15,18,19] ?_ | refine aP (ops := #[⟨some 22, _, _, _, _, _⟩, _]) 4 [0,1,5,6,7] ?_ | refine aP 5 [1,2,3,4,5,14,15,18,19] ?_ | refine aP 6 [1,2,3,4,5,14,15,18,19] ?_ | refine aP 7 [1,2,3,4,5,6,14,15,18,19] ?_ | refine aP 8 [1,2,3,4,5,6,7,14,15,18,19] ?_ | refine aP 9 [1,2,3,4,5,7,14,15,18,19] ?_ | refine aP 10 [1,2,3,4,5,8,14,15,18,19] ?_ | refine aP 11 [2] ?_ | refine aP 12 [2] ?_))
 | ((with_reducible show AW _ (Code.loop _) _ _); first
 | ((have hO := hai; with_reducible refine aL (c := (Code.seq (Code.region 1 _ _) _)) (ι := Nat) [0,1,5,6] (fun k => [(7, iA .i64 (k : Int))]) (fun k => []) (fun k => k <= n /\ (∀ k', k' < k -> smP P n i k')) (fun k => n - k) 0 ?lg1b ?l11b ?l21b ?li1b ?lr1b); (case' lg1b => rintro k _); (case' li1b => try (exact ⟨Nat.zero_le _, fun i hi => absurd hi (Nat.not_lt_zero _)⟩)); (case' lr1b => rintro k ⟨hk, hak⟩ KR hR1b; simp only [bD, dD, hset, lk, if_true, if_false, xE, reduceIte, zN, nx, hz, Int.toNat_one, Int.reduceToNat]))
 | ((with_reducible refine aL (c := (Code.seq (Code.region 1 _ _) _)) (ι := Nat) [0,1,5,6] (fun i => [(7, iA .i64 (i : Int))]) (fun i => []) (fun i => i <= n /\ (∀ i', i' < i -> ∀ k', k' < n -> smP P n i' k')) (fun i => n - i) 0 ?lg1a ?l11a ?l21a ?li1a ?lr1a); (case' lg1a => rintro i _); (case' li1a => try (exact ⟨Nat.zero_le _, fun i hi => absurd hi (Nat.not_lt_zero _)⟩)); (case' lr1a => rintro i ⟨hi, hai⟩ KR hR1a; simp only [bD, dD, hset, lk, if_true, if_false, xE, reduceIte, zN, nx, hz, Int.toNat_one, Int.reduceToNat]))))
 | ((first | (with_reducible refine And.intro ?_ ?_) | (with_reducible refine Need.mk ?_)); focus (first | exact True.intro | omega | (simp (disch := omega) only [Bool.and_eq_true, Bool.or_eq_true, decide_eq_true_eq, bne_iff_ne, ne_eq] at *; omega) | (simp; done) | (simp; omega)))
 | (with_reducible refine aJ ?_)
 | ((with_reducible show bL _ _ _ _ _ _); first
 | ((with_reducible refine aM ?_ ?_) <;> (intro hc; (try simp only [zB, zC, reduceCtorEq] at hc); (try (exfalso; contradiction)))))
 | ((with_reducible show ∀ _ : AS -> Prop, _ -> _); intro K hK)
 | ((with_reducible refine And.intro ?_ ?_); focus (((with_reducible show zk _ _ _ _ = true); kernel_rfl)))
 | ((with_reducible show aW _ _ _ _ _ _ _ _ _ _); first
 | (refine aF (k := 224) GN (af2 _ _ _ _ _ _ _ _) ?_ ?_)
 | ((refine dw (k := 223) Tryz.func223 rfl BL (by rw [Tryz.ntmps223]; simp) ?_ ?_ (fun K hK => ?_)); (focus (exact True.intro)); (focus ((simp [jo]; done))); simp only [Tryz.ntmps223, List.map_cons, List.map_nil, List.nil_append, List.cons_append, List.append_nil, LV.tv, au, Nat.zero_add, Nat.reduceAdd]))
 | ((with_reducible show eT _ _ _ _ _ _ _ _ _ _ _ _ _); first
 | (refine dh (k := 201) tO (A9 n P _ hn (by omega)) ?_ ?_))
 | ((with_reducible refine hR1b _ (k + 1) ?_); (try clear hR1b KR))
 | ((with_reducible refine hR1a _ (i + 1) ?_); (try clear hR1a KR))
 | ((with_reducible refine Told.mk ?_); simp only [go_sem, reduceIte, reduceCtorEq, xA, xL, xD, xE, xM, xS, xB, dY, nx, hz, Int.toNat_one, Int.reduceToNat] <;> (first | (((try simp (disch := omega) only [aY, Int.natCast_add, Int.cast_ofNat_Int, and_true, true_and, and_self]); (repeat' (first | omega | (with_reducible refine And.intro ?_ ?_) | ((exact all_succ (by assumption) (Or.inl (by omega)))) | ((exact all_succ (by assumption) (Or.inr (by assumption)))))); done)) | (((try simp (disch := omega) only [aY, Int.natCast_add, Int.cast_ofNat_Int, and_true, true_and, and_self]); (repeat' (first | omega | (with_reducible refine And.intro ?_ ?_) | ((exact all_succ (by assumption) (fun k' hk' => hak k' (by omega)))))); done))))
 | ((fail_if_success (with_reducible show AW _ _ _ _)); simp (maxSteps := 2000000) only [go_sem, reduceIte, reduceCtorEq, xA, xL, xD, xE, xM, xS, xB, Tryz.f202, Tryz.f238, Tryz.f223, dY, nx, hz, Int.toNat_one, Int.reduceToNat])
 | ((fail_if_success (with_reducible show AW _ _ _ _)); simp (disch := omega) only [aY, jy, jH])
 | ((with_reducible show aW _ _ _ _ _ _ (.yld _) _ _ _); (refine kU (by simp only [Eh, if_true]; exact rfl) ?_ (by simp) ?_ ?_ (fun K hK => ?_)); (focus (exact True.intro)); (focus (simp [mE])); (focus ((simp [jo]; done))); simp only [iT, gf, if_true, Nat.reduceAdd])
 | ((with_reducible refine hK _ ?_); clear hK K)
 | (with_reducible apply_assumption -exfalso only [*]))
  all_goals (first | exact afQ (by assumption) (by assumption) (by assumption) (by assumption) | exact ae3 (by assumption) (by assumption))
end Go.Proofs.YtcfechepbamhkaaGreat
namespace Go.Proofs.YtcfechepbamhkaaGreat
open Go.RowKit Go.Sea
open Nat renaming reduceAdd -> xA, reduceLT -> xL, reduceLeDiff -> xD, reduceEqDiff -> xE, reduceMul -> xM, reduceSub -> xS, reduceBEq -> xB
theorem XU : aK Tryz.prog 181 = true := by kernel_rfl
theorem Si : aK Tryz.prog 208 = true := by kernel_rfl
theorem Sy : aK Tryz.prog 209 = true := by kernel_rfl
theorem Xq : aK Tryz.prog 211 = true := by kernel_rfl
theorem YA : aK Tryz.prog 212 = true := by kernel_rfl
attribute [go_sem] XU Si Sy Xq YA
def ltI (P : Nat -> Nat -> Int) (i : Nat) : Prop := P 0 0 < P i 0 \/ (P 0 0 = P i 0 /\ P 0 1 < P i 1)
instance (P : Nat -> Nat -> Int) (i : Nat) : Decidable (ltI P i) := by unfold ltI; infer_instance
def aaS (P : Nat -> Nat -> Int) (i : Nat) : Prop := fV (P i 0) (P i 1) = true /\ (0 < i -> ltI P i)
instance (P : Nat -> Nat -> Int) (i : Nat) : Decidable (aaS P i) := by unfold aaS; infer_instance
def Xe (n i : Nat) : Nat := (((i : Int) + 2) % (n : Int)).toNat
def trI (P : Nat -> Nat -> Int) (n i : Nat) : Int := VE (P i 0) (P i 1) (P (nx n i) 0) (P (nx n i) 1) (P (Xe n i) 0) (P (Xe n i) 1)
def zh (n : Nat) (P : Nat -> Nat -> Int) : Bool := decide ((3 <= n /\ n <= 24) /\ (∀ i, i < n -> aaS P i) /\ (∀ i, i < n -> trI P n i ≠ 0) /\ O7 P n = true /\ 0 < Sk P n n)
theorem ag6 {n : Nat} {P : Nat -> Nat -> Int} (h : (n : Int) < 3 \/ (n : Int) > 24) : false = zh n P := (decide_eq_false fun g => by omega).symm
theorem af0 {n i : Nat} {P : Nat -> Nat -> Int} (h : fV (P i 0) (P i 1) = false) (hi : (i : Int) < n) : false = zh n P :=
  (decide_eq_false fun g => by have := (g.2.1 i (by omega)).1; rw [h] at this; cases this).symm
theorem afk {n i : Nat} {P : Nat -> Nat -> Int} (h : decide (P 0 0 < P i 0 \/ (P 0 0 = P i 0 /\ P 0 1 < P i 1)) = false) (h0 : (i : Int) > 0) (hi : (i : Int) < n) : false = zh n P :=
  (decide_eq_false fun g => by have := (g.2.1 i (by omega)).2 (by omega); unfold ltI at this; rw [decide_eq_false_iff_not] at h; exact h this).symm
theorem afw {n i : Nat} {P : Nat -> Nat -> Int} (h : trI P n i = 0) (hi : (i : Int) < n) : false = zh n P := (decide_eq_false fun g => g.2.2.1 i (by omega) h).symm
theorem ajV {n i j : Nat} {P : Nat -> Nat -> Int} (hn : 3 <= n /\ n <= 24) (hi : (n : Int) <= i) (hj : (n : Int) <= j) (g : ∀ i', i' < i -> aaS P i') (g2 : ∀ i', i' < j -> trI P n i' ≠ 0) : (O7 P n && decide (Sk P n n > 0)) = zh n P := by
  refine Bool.eq_iff_iff.2 ?_
  simp only [zh, Bool.and_eq_true, decide_eq_true_eq]
  exact ⟨fun h => ⟨hn, fun k hk => g k (by omega), fun k hk => g2 k (by omega), h.1, h.2⟩, fun h => ⟨h.2.2.2.1, h.2.2.2.2⟩⟩
end Go.Proofs.YtcfechepbamhkaaGreat
set_option maxRecDepth 100000
set_option maxHeartbeats 4000000
namespace Go.Proofs.YtcfechepbamhkaaGreat
open Go.RowKit Go.Sea
open Nat renaming reduceAdd -> xA, reduceLT -> xL, reduceLeDiff -> xD, reduceEqDiff -> xE, reduceMul -> xM, reduceSub -> xS, reduceBEq -> xB
theorem UU : aK Tryz.prog 197 = true := by kernel_rfl
theorem Jg : aK Tryz.prog 198 = true := by kernel_rfl
theorem G7 : aK Tryz.prog 199 = true := by kernel_rfl
theorem Ht : aK Tryz.prog 200 = true := by kernel_rfl
theorem G6 : aK Tryz.prog 202 = true := by kernel_rfl
theorem JA : aK Tryz.prog 203 = true := by kernel_rfl
theorem Gt : aK Tryz.prog 220 = true := by kernel_rfl
attribute [go_sem] Jg G7 Ht G6 JA Gt
def trJ (P : Nat -> Nat -> Int) (n i : Nat) : Int := tvV (P (Dx n ((i : Int) - 1)) 0) (P (Dx n ((i : Int) - 1)) 1) (P i 0) (P i 1) (P (Dx n ((i : Int) + 1)) 0) (P (Dx n ((i : Int) + 1)) 1)
theorem KT {n i : Nat} (hi : i < n) : nx n i = if i + 1 = n then 0 else i + 1 := by
  unfold nx Dx
  rw [Int.add_emod_right]
  split
  · rw [show (i : Int) + 1 = n by omega, Int.emod_self]; rfl
  · rw [Int.emod_eq_of_lt (by omega) (by omega)]; omega
theorem JZ {n i : Nat} (hi : i < n) : Dx n ((i : Int) - 1) = if i = 0 then n - 1 else i - 1 := by
  unfold Dx
  split
  · rw [Int.emod_eq_of_lt (by omega) (by omega)]; omega
  · rw [Int.add_emod_right, Int.emod_eq_of_lt (by omega) (by omega)]; omega
theorem Zx {n i : Nat} (hn : 3 <= n) (hi : i < n) : Xe n i = if i + 2 = n then 0 else if i + 1 = n then 1 else i + 2 := by
  unfold Xe
  split
  · rw [show (i : Int) + 2 = n by omega, Int.emod_self]; rfl
  · split
    · rw [show (i : Int) + 2 = 1 + n by omega, Int.add_emod_right, Int.emod_eq_of_lt (by omega) (by omega)]; rfl
    · rw [Int.emod_eq_of_lt (by omega) (by omega)]; omega
theorem VU {P : Nat -> Nat -> Int} {n j : Nat} (hn : 3 <= n) (hp : pW P n) (hj : j < n) : trJ P n j = trI P n (Dx n ((j : Int) - 1)) := by
  have e0 := JZ hj
  have hi : Dx n ((j : Int) - 1) < n := by rw [e0]; split <;> omega
  have e1 : nx n (Dx n ((j : Int) - 1)) = j := by rw [KT hi, e0]; split <;> (split <;> omega)
  have e2 : Xe n (Dx n ((j : Int) - 1)) = nx n j := by
    rw [Zx hn hi, KT hj, e0]; repeat' split
    all_goals omega
  unfold trJ trI tvV
  rw [e1, e2]
  have e3 : Dx n ((j : Int) + 1) = nx n j := rfl
  rw [e3, hp _ hi, hp _ hj, hp _ (Hq (n := n) (i := j) (by omega))]; rfl
theorem akl {n i : Nat} (hi : i < n) : Dx n (((nx n i : Nat) : Int) - 1) = i := by
  have h := Hq (n := n) (i := i) (by omega)
  rw [JZ h, KT hi]; repeat' split
  all_goals omega
def akB (P : Nat -> Nat -> Int) (i : Nat) : Prop := 0 < i -> TL (P 0 0) (P 0 1) (P i 0) (P i 1) < 0
theorem aeC {P : Nat -> Nat -> Int} {n i j : Nat} (hn : 3 <= (n : Int) /\ (n : Int) <= 24) (haj : ∀ j', j' < j -> fV (P j' 0) (P j' 1) = true) (hj : (n : Int) <= j) (hi : (i : Int) < n) (h : ((i : Int) > 0 /\ TL (P 0 0) (P 0 1) (P i 0) (P i 1) >= 0) \/ trJ P n i = 0) : false = zh n P := by
  rcases h with h | h
  · exact afk (decide_eq_false ((MS _ _ _ _).1 h.2)) h.1 hi
  · rw [VU (by omega) (fun k hk => haj k (by omega)) (by omega)] at h
    refine afw h ?_
    have := JZ (n := n) (i := i) (by omega)
    rw [this]; split <;> omega
theorem aer {P : Nat -> Nat -> Int} {n i j : Nat} (hn : 3 <= (n : Int) /\ (n : Int) <= 24) (haj : ∀ j', j' < j -> fV (P j' 0) (P j' 1) = true) (hj : (n : Int) <= j) (hai : ∀ i', i' < i -> akB P i' /\ trJ P n i' ≠ 0) (hi : (n : Int) <= i) : (O7 P n && decide (Sk P n n > 0)) = zh n P := by
  have hp : pW P n := fun k hk => haj k (by omega)
  refine ajV (i := n) (j := n) (by omega) (by omega) (by omega) (fun k hk => ⟨hp k hk, fun h0 => ?_⟩) (fun k hk => ?_)
  · have h1 := (hai k (by omega)).1 h0
    have h2 := MS (P 0 0) (P 0 1) (P k 0) (P k 1)
    unfold ltI
    exact Classical.byContradiction fun g => by have := h2.2 g; omega
  · have hx := Hq (n := n) (i := k) (by omega)
    have h1 := (hai (nx n k) (by omega)).2
    rw [VU (by omega) hp hx, akl hk] at h1
    exact h1
theorem akv (x y : Int) : aA Tryz.prog 197 [.agg [.g (.int .i64 (x)), .g (.int .i64 (y))]] (.t (.one (.g (.bool (!fV x y))))) := by
  refine ak Tryz.func197 rfl (by rw [Tryz.ntmps197]; simp) ?_
  simp only [Tryz.ntmps197, zM, PT.tv, au, Nat.zero_add, Nat.reduceAdd]
  repeat' (first
 | ((with_reducible show AW _ _ _ _); first
 | (with_reducible first | refine aS (fun K hK => ?_) | refine aT ?_)
 | (first
 | (with_reducible first | refine aP 0 [0] ?_ | refine aP 1 [1] ?_)))
 | (((with_reducible refine Need.mk ?_)); focus (exact True.intro))
 | (with_reducible refine aJ ?_)
 | ((with_reducible show aW _ _ _ _ _ _ _ _ _ _); first
 | (refine aF (k := 144) jC (yQ _ _) ?_ ?_))
 | ((fail_if_success (with_reducible show AW _ _ _ _)); simp (maxSteps := 2000000) only [go_sem, reduceIte, reduceCtorEq, xA, xL, xD, xE, xM, xS, xB, Tryz.f197])
 | ((with_reducible refine hK _ ?_); clear hK K))
theorem aiD (n : Nat) (P : Nat -> Nat -> Int) (hn : n <= 9223372036854775807) : aA Tryz.prog 170 [.one (.lst 2 n (dY P))] (.t (.one (.g (.bool (zh n P))))) := by
  refine ak Tryz.func170 rfl (by rw [Tryz.ntmps170]; simp) ?_
  simp only [Tryz.ntmps170, zM, PT.tv, au, Nat.zero_add, Nat.reduceAdd]
  repeat' (first
 | ((with_reducible show AW _ _ _ _); first
 | (with_reducible first | refine aS (fun K hK => ?_) | refine aI ?_ | refine aX ?_ | refine aT ?_ | refine aC ?_ | refine aB ?_)
 | (first
 | (with_reducible first | refine aP 0 [0,1] ?_ | refine aP (ops := #[⟨some 3, _, _, _, _, _⟩]) 1 [0] ?_ | refine aP (ops := #[⟨some 5, _, _, _, _, _⟩, _, _, _, _]) 1 [0,1] ?_ | refine aP (ops := #[⟨some 6, _, _, _, _, _⟩, _, _]) 1 [0,1] ?_ | refine aP (ops := #[⟨some 6, _, _, _, _, _⟩, _, _, _, _, _, _, _, _, _, _, _, _]) 2 [0,3] ?_ | refine aP (ops := #[⟨some 9, _, _, _, _, _⟩]) 2 [0,1,7,8] ?_ | refine aP (ops := #[⟨some 2, _, _, _, _, _⟩]) 3 [] ?_ | refine aP (ops := #[⟨some 10, _, _, _, _, _⟩, _]) 3 [0,1,7,8] ?_ | refine aP (ops := #[⟨some 19, _, _, _, _, _⟩, _]) 4 [0] ?_ | refine aP (ops := #[⟨some 11, _, _, _, _, _⟩, _, _, _, _, _]) 4 [0,1,5,7,8] ?_ | refine aP (ops := #[⟨some 20, _, _, _, _, _⟩, _, _]) 5 [4] ?_ | refine aP (ops := #[⟨some 17, _, _, _, _, _⟩, _]) 5 [5] ?_ | refine aP (ops := #[⟨some 23, _, _, _, _, _⟩]) 6 [4,21,22] ?_ | refine aP (ops := #[⟨some 18, _, _, _, _, _⟩, _]) 6 [0,1,7,8] ?_ | refine aP (ops := #[⟨some 24, _, _, _, _, _⟩, _]) 7 [4,21,22] ?_ | refine aP (ops := #[⟨some 4, _, _, _, _, _⟩]) 7 [] ?_)
 | ((with_reducible refine aR (c := Code.region 8 _ true) [4,5,21,22] ?_); (with_reducible refine aD ?_ ?_ ?_ ?_); (focus kernel_rfl); (focus kernel_rfl); (focus kernel_rfl))
 | (with_reducible first | refine aP 9 [] ?_ | refine aP 10 [4,21,22] ?_ | refine aP 11 [4] ?_))
 | ((with_reducible show AW _ (Code.loop _) _ _); first
 | ((with_reducible refine aL (c := (Code.seq (Code.region 2 _ _) _)) (ι := Nat) [0,1,7] (fun j => [(8, iA .i64 (j : Int))]) (fun j => []) (fun j => j <= n /\ (∀ j', j' < j -> fV (P j' 0) (P j' 1) = true)) (fun j => n - j) 0 ?lg2 ?l12 ?l22 ?li2 ?lr2); (case' lg2 => rintro j _); (case' li2 => try (exact ⟨Nat.zero_le _, fun i hi => absurd hi (Nat.not_lt_zero _)⟩)); (case' lr2 => rintro j ⟨hj, haj⟩ KR hR2; simp only [bD, dD, hset, lk, if_true, if_false, xE, reduceIte, zN]))
 | ((with_reducible refine aL (c := (Code.seq (Code.region 6 _ _) _)) (ι := Nat) [4,21] (fun i => [(22, iA .i64 (i : Int))]) (fun i => []) (fun i => i <= n /\ (∀ i', i' < i -> akB P i' /\ trJ P n i' ≠ 0)) (fun i => n - i) 0 ?lg6 ?l16 ?l26 ?li6 ?lr6); (case' lg6 => rintro i _); (case' li6 => try (exact ⟨Nat.zero_le _, fun i hi => absurd hi (Nat.not_lt_zero _)⟩)); (case' lr6 => rintro i ⟨hi, hai⟩ KR hR6; simp only [bD, dD, hset, lk, if_true, if_false, xE, reduceIte, zN]))))
 | ((first | (with_reducible refine And.intro ?_ ?_) | (with_reducible refine Need.mk ?_)); focus (first | exact True.intro | omega | (intro _; (with_reducible assumption)) | (intros; (repeat' (first | omega | (with_reducible refine And.intro ?_ ?_))); done) | (simp; done) | (simp; omega)))
 | (with_reducible refine aJ ?_)
 | ((with_reducible show bL _ _ _ _ _ _); first
 | ((with_reducible refine aM ?_ ?_) <;> (intro hc; (try simp only [zB, zC, reduceCtorEq] at hc); (try (exfalso; omega)))))
 | ((with_reducible refine And.intro ?_ ?_); focus ((with_reducible show gV _ _ _ = true); kernel_rfl))
 | ((with_reducible show aW _ _ _ _ _ _ _ _ _ _); first
 | (refine aF (k := 197) UU (akv _ _) ?_ ?_)
 | (refine aF (k := 202) G6 (Vp n P (by omega)) ?_ ?_)
 | ((refine dw (k := 198) Tryz.func198 rfl Jg (by rw [Tryz.ntmps198]; simp) ?_ ?_ (fun K hK => ?_)); (focus ((simp; omega))); (focus ((simp [jo]; done))); simp only [Tryz.ntmps198, List.map_cons, List.map_nil, List.nil_append, List.cons_append, List.append_nil, LV.tv, au, Nat.zero_add, Nat.reduceAdd])
 | ((refine dw (k := 220) Tryz.func220 rfl Gt (by rw [Tryz.ntmps220]; simp) ?_ ?_ (fun K hK => ?_)); (focus (exact True.intro)); (focus ((simp [jo]; done))); simp only [Tryz.ntmps220, List.map_cons, List.map_nil, List.nil_append, List.cons_append, List.append_nil, LV.tv, au, Nat.zero_add, Nat.reduceAdd]))
 | ((with_reducible show jV _ _ _ _ _ _ _ _ _ _ _ _ _); first
 | (refine gP (k := 199) G7 (fun hg => aas _ _ _ _) ?_ ?_)
 | (refine gP (k := 200) Ht (fun hg => aa8 _ _ _ _ _ _) ?_ ?_)
 | (refine gP (k := 201) tO (fun hg => A9 n P _ (by omega) (by omega)) ?_ ?_))
 | ((with_reducible show bM _ _ _ _ _ _ _ _ _ _); first
 | (refine aO (k := 203) JA (fun hg => abl n P (by omega) (fun k hk => haj k (by omega))) ?_ ?_)
 | ((refine qU (k := 198) ?_ ?_) <;> (intro hc; (try simp only [zB, zC, reduceCtorEq] at hc); (try (exfalso; contradiction)))))
 | ((with_reducible refine hR2 _ (j + 1) ?_); (try clear hR2 KR))
 | ((with_reducible refine hR6 _ (i + 1) ?_); (try clear hR6 KR))
 | ((with_reducible refine Told.mk ?_); simp only [go_sem, reduceIte, reduceCtorEq, xA, xL, xD, xE, xM, xS, xB, dY] <;> (first | (((try simp (disch := omega) only [aY, Int.natCast_add, Int.cast_ofNat_Int, and_true, true_and, and_self]); (repeat' (first | omega | (with_reducible refine And.intro ?_ ?_) | (exact all_succ (by assumption) (by assumption)) )); done)) | (((try simp (disch := omega) only [aY, Int.natCast_add, Int.cast_ofNat_Int, and_true, true_and, and_self]); (repeat' (first | omega | (with_reducible refine And.intro ?_ ?_) | ((exact all_succ (by assumption) ⟨fun h0 => by omega, by unfold trJ; exact hc.2⟩)))); done))))
 | ((fail_if_success (with_reducible show AW _ _ _ _)); simp (maxSteps := 2000000) only [go_sem, reduceIte, reduceCtorEq, xA, xL, xD, xE, xM, xS, xB, Tryz.f170, Tryz.f198, Tryz.f220, dY])
 | ((fail_if_success (with_reducible show AW _ _ _ _)); simp (disch := omega) only [aY, jy, jH])
 | ((with_reducible refine hK _ ?_); clear hK K)
 | (with_reducible apply_assumption -exfalso only [*]))
  all_goals (first | exact ag6 (by assumption) | exact af0 (by assumption) (by assumption) | exact aeC (by assumption) haj (by assumption) (by assumption) hc | exact aer (by assumption) haj (by assumption) hai hc)
end Go.Proofs.YtcfechepbamhkaaGreat
set_option maxRecDepth 100000
set_option maxHeartbeats 4000000
namespace Go.Proofs.YtcfechepbamhkaaGreat
open Go.RowKit Go.Sea
open Nat renaming reduceAdd -> xA, reduceLT -> xL, reduceLeDiff -> xD, reduceEqDiff -> xE, reduceMul -> xM, reduceSub -> xS, reduceBEq -> xB
theorem agR : boD Tryz.prog 174 = false := by kernel_rfl
theorem aii : boD Tryz.prog 60 = false := by kernel_rfl
theorem afK : eqD Tryz.prog 174 = some (true, [.int .i64, .int .i64, .int .i64, .int .i64, .int .i64, .int .i64]) := by kernel_rfl
theorem air : eqD Tryz.prog 60 = some (true, [.int .i64, .int .i64]) := by kernel_rfl
attribute [go_sem] agR aii afK air
def eqI (w : Nat) (P Q : Nat -> Nat -> Int) (i : Nat) : Prop := ∀ o, o < w -> P i o = Q i o
def Ba (w n m : Nat) (P Q : Nat -> Nat -> Int) : Bool := decide (n = m /\ ∀ i, i < n -> ∀ o, o < w -> P i o = Q i o)
theorem FB {w n m : Nat} {P Q : Nat -> Nat -> Int} (h : (n : Int) ≠ m) : false = Ba w n m P Q := (decide_eq_false fun g => by omega).symm
theorem NJ {w n m i : Nat} {P Q : Nat -> Nat -> Int} (h : (n : Int) = m) (hi : (n : Int) <= i) (g : ∀ i', i' < i -> eqI w P Q i') : true = Ba w n m P Q := (decide_eq_true ⟨by omega, fun k hk => g k (by omega)⟩).symm
theorem afq (n m : Nat) (P Q : Nat -> Nat -> Int) (hn : n <= 9223372036854775807) (hm : m <= 9223372036854775807) : aA Tryz.prog 146 [.one (.lst 2 n (dY P)), .one (.lst 2 m (dY Q))] (.t (.one (.g (.bool (Ba 2 n m P Q))))) := by
  refine ak Tryz.func146 rfl (by rw [Tryz.ntmps146]; simp) ?_
  simp only [Tryz.ntmps146, zM, PT.tv, au, Nat.zero_add, Nat.reduceAdd]
  repeat' (first
 | ((with_reducible show AW _ _ _ _); first
 | (with_reducible first | refine aS (fun K hK => ?_) | refine aI ?_ | refine aX ?_ | refine aT ?_ | refine aC ?_ | refine aB ?_)
 | (first
 | (with_reducible first | refine aP 0 [0,1] ?_ | refine aP 1 [0,1] ?_ | refine aP 2 [] ?_ | refine aP 3 [0,1] ?_ | refine aP 4 [0,1,12,13] ?_ | refine aP 5 [0,1,12,13] ?_)
 | ((with_reducible refine aR (c := Code.region 6 _ true) [0,1,5,12,13] ?_); (with_reducible refine aD ?_ ?_ ?_ ?_); (focus kernel_rfl); (focus kernel_rfl); (focus kernel_rfl))
 | (with_reducible first | refine aP 7 [] ?_ | refine aP 8 [0,1,12,13] ?_ | refine aP 9 [] ?_))
 | ((with_reducible show AW _ (Code.loop _) _ _); first
 | ((with_reducible refine aL (c := (Code.seq (Code.region 4 _ _) _)) (ι := Nat) [0,1,12] (fun i => [(13, iA .i64 (i : Int))]) (fun i => []) (fun i => i <= n /\ (∀ i', i' < i -> eqI 2 P Q i')) (fun i => n - i) 0 ?lg4 ?l14 ?l24 ?li4 ?lr4); (case' lg4 => rintro i _); (case' li4 => try (exact ⟨Nat.zero_le _, fun i hi => absurd hi (Nat.not_lt_zero _)⟩)); (case' lr4 => rintro i ⟨hi, hai⟩ KR hR4; simp only [bD, dD, hset, lk, if_true, if_false, xE, reduceIte, zN, Go.Sea.nk]))))
 | (((with_reducible refine And.intro ?_ ?_)); focus (omega))
 | (with_reducible refine aJ ?_)
 | ((with_reducible show bL _ _ _ _ _ _); first
 | ((with_reducible refine aM ?_ ?_) <;> (intro hc; (try simp only [zB, zC, reduceCtorEq] at hc); (try (exfalso; contradiction)))))
 | ((with_reducible refine And.intro ?_ ?_); focus ((with_reducible show gV _ _ _ = true); kernel_rfl))
 | ((with_reducible refine hR4 _ (i + 1) ?_); (try clear hR4 KR))
 | ((with_reducible refine Told.mk ?_); simp only [go_sem, reduceIte, reduceCtorEq, xA, xL, xD, xE, xM, xS, xB, dY, Go.Sea.nk] <;> ((((try simp (disch := omega) only [aY, Int.natCast_add, Int.cast_ofNat_Int, and_true, true_and, and_self]); (repeat' (first | omega | (with_reducible refine And.intro ?_ ?_) | ((exact all_succ (by assumption) (by (intro o ho; rcases o with _ | _ | o <;> first | omega | (simp_all; done))))))); done))))
 | ((fail_if_success (with_reducible show AW _ _ _ _)); simp (maxSteps := 2000000) only [go_sem, reduceIte, reduceCtorEq, xA, xL, xD, xE, xM, xS, xB, Tryz.f146, dY, Go.Sea.nk])
 | ((with_reducible refine hK _ ?_); clear hK K)
 | (with_reducible apply_assumption -exfalso only [*]))
  all_goals (first | exact FB (by omega) | exact NJ (by omega) (by omega) hai | (refine (decide_eq_false fun g => ?_).symm; have g2 := g.2 i (by omega); have r0 := g2 0 (by omega); have r1 := g2 1 (by omega); simp_all; done))
theorem ZH (n m : Nat) (P Q : Nat -> Nat -> Int) (hn : n <= 9223372036854775807) (hm : m <= 9223372036854775807) : aA Tryz.prog 112 [.one (.lst 2 n (dY P)), .one (.lst 2 m (dY Q))] (.t (.one (.g (.bool (Ba 2 n m P Q))))) := by
  refine ak Tryz.func112 rfl (by rw [Tryz.ntmps112]; simp) ?_
  simp only [Tryz.ntmps112, zM, PT.tv, au, Nat.zero_add, Nat.reduceAdd]
  repeat' (first
 | ((with_reducible show AW _ _ _ _); first
 | (with_reducible first | refine aS (fun K hK => ?_) | refine aI ?_ | refine aX ?_ | refine aT ?_ | refine aC ?_ | refine aB ?_)
 | (first
 | (with_reducible first | refine aP 0 [0,1] ?_ | refine aP 1 [0,1] ?_ | refine aP 2 [] ?_ | refine aP 3 [0,1] ?_ | refine aP 4 [0,1,5] ?_ | refine aP 5 [0,1,5] ?_)
 | ((with_reducible refine aR (c := Code.region 6 _ true) [0,1,5] ?_); (with_reducible refine aD ?_ ?_ ?_ ?_); (focus kernel_rfl); (focus kernel_rfl); (focus kernel_rfl))
 | (with_reducible first | refine aP 7 [] ?_ | refine aP 8 [] ?_))
 | ((with_reducible show AW _ (Code.loop _) _ _); first
 | ((with_reducible refine aL (c := (Code.seq (Code.seq (Code.region 4 _ _) _) _)) (ι := Nat) [0,1] (fun i => [(5, iA .i64 (i : Int))]) (fun i => []) (fun i => i <= n /\ (∀ i', i' < i -> eqI 2 P Q i')) (fun i => n - i) 0 ?lg4 ?l14 ?l24 ?li4 ?lr4); (case' lg4 => rintro i _); (case' li4 => try (exact ⟨Nat.zero_le _, fun i hi => absurd hi (Nat.not_lt_zero _)⟩)); (case' lr4 => rintro i ⟨hi, hai⟩ KR hR4; simp only [bD, dD, hset, lk, if_true, if_false, xE, reduceIte, zN, Go.Sea.nk]))))
 | (((with_reducible refine And.intro ?_ ?_)); focus (omega))
 | (with_reducible refine aJ ?_)
 | ((with_reducible show bL _ _ _ _ _ _); first
 | ((with_reducible refine aM ?_ ?_) <;> (intro hc; (try simp only [zB, zC, reduceCtorEq] at hc); (try (exfalso; contradiction)))))
 | ((with_reducible refine And.intro ?_ ?_); focus ((with_reducible show gV _ _ _ = true); kernel_rfl))
 | ((with_reducible refine hR4 _ (i + 1) ?_); (try clear hR4 KR))
 | ((with_reducible refine Told.mk ?_); simp only [go_sem, reduceIte, reduceCtorEq, xA, xL, xD, xE, xM, xS, xB, dY, Go.Sea.nk] <;> ((((try simp (disch := omega) only [aY, Int.natCast_add, Int.cast_ofNat_Int, and_true, true_and, and_self]); (repeat' (first | omega | (with_reducible refine And.intro ?_ ?_) | ((exact all_succ (by assumption) (by (intro o ho; rcases o with _ | _ | o <;> first | omega | (simp_all; done))))))); done))))
 | ((fail_if_success (with_reducible show AW _ _ _ _)); simp (maxSteps := 2000000) only [go_sem, reduceIte, reduceCtorEq, xA, xL, xD, xE, xM, xS, xB, Tryz.f112, dY, Go.Sea.nk])
 | ((with_reducible refine hK _ ?_); clear hK K)
 | (with_reducible apply_assumption -exfalso only [*]))
  all_goals (first | exact FB (by omega) | exact NJ (by omega) (by omega) hai | (refine (decide_eq_false fun g => ?_).symm; have g2 := g.2 i (by omega); have r0 := g2 0 (by omega); have r1 := g2 1 (by omega); simp_all; done))
theorem Zn (n m : Nat) (P Q : Nat -> Nat -> Int) (hn : n <= 9223372036854775807) (hm : m <= 9223372036854775807) : aA Tryz.prog 147 [.one (.lst 6 n (dY P)), .one (.lst 6 m (dY Q))] (.t (.one (.g (.bool (Ba 6 n m P Q))))) := by
  refine ak Tryz.func147 rfl (by rw [Tryz.ntmps147]; simp) ?_
  simp only [Tryz.ntmps147, zM, PT.tv, au, Nat.zero_add, Nat.reduceAdd]
  repeat' (first
 | ((with_reducible show AW _ _ _ _); first
 | (with_reducible first | refine aS (fun K hK => ?_) | refine aI ?_ | refine aX ?_ | refine aT ?_ | refine aC ?_ | refine aB ?_)
 | (first
 | (with_reducible first | refine aP 0 [0,1] ?_ | refine aP 1 [0,1] ?_ | refine aP 2 [] ?_ | refine aP 3 [0,1] ?_ | refine aP 4 [0,1,12,13] ?_ | refine aP 5 [0,1,12,13] ?_)
 | ((with_reducible refine aR (c := Code.region 6 _ true) [0,1,5,12,13] ?_); (with_reducible refine aD ?_ ?_ ?_ ?_); (focus kernel_rfl); (focus kernel_rfl); (focus kernel_rfl))
 | (with_reducible first | refine aP 7 [] ?_ | refine aP 8 [0,1,12,13] ?_ | refine aP 9 [] ?_))
 | ((with_reducible show AW _ (Code.loop _) _ _); first
 | ((with_reducible refine aL (c := (Code.seq (Code.region 4 _ _) _)) (ι := Nat) [0,1,12] (fun i => [(13, iA .i64 (i : Int))]) (fun i => []) (fun i => i <= n /\ (∀ i', i' < i -> eqI 6 P Q i')) (fun i => n - i) 0 ?lg4 ?l14 ?l24 ?li4 ?lr4); (case' lg4 => rintro i _); (case' li4 => try (exact ⟨Nat.zero_le _, fun i hi => absurd hi (Nat.not_lt_zero _)⟩)); (case' lr4 => rintro i ⟨hi, hai⟩ KR hR4; simp only [bD, dD, hset, lk, if_true, if_false, xE, reduceIte, zN, Go.Sea.nk]))))
 | (((with_reducible refine And.intro ?_ ?_)); focus (omega))
 | (with_reducible refine aJ ?_)
 | ((with_reducible show bL _ _ _ _ _ _); first
 | ((with_reducible refine aM ?_ ?_) <;> (intro hc; (try simp only [zB, zC, reduceCtorEq] at hc); (try (exfalso; contradiction)))))
 | ((with_reducible refine And.intro ?_ ?_); focus ((with_reducible show gV _ _ _ = true); kernel_rfl))
 | ((with_reducible refine hR4 _ (i + 1) ?_); (try clear hR4 KR))
 | ((with_reducible refine Told.mk ?_); simp only [go_sem, reduceIte, reduceCtorEq, xA, xL, xD, xE, xM, xS, xB, dY, Go.Sea.nk] <;> ((((try simp (disch := omega) only [aY, Int.natCast_add, Int.cast_ofNat_Int, and_true, true_and, and_self]); (repeat' (first | omega | (with_reducible refine And.intro ?_ ?_) | ((exact all_succ (by assumption) (by (intro o ho; rcases o with _ | _ | _ | _ | _ | _ | o <;> first | omega | (simp_all; done))))))); done))))
 | ((fail_if_success (with_reducible show AW _ _ _ _)); simp (maxSteps := 2000000) only [go_sem, reduceIte, reduceCtorEq, xA, xL, xD, xE, xM, xS, xB, Tryz.f147, dY, Go.Sea.nk])
 | ((with_reducible refine hK _ ?_); clear hK K)
 | (with_reducible apply_assumption -exfalso only [*]))
  all_goals (first | exact FB (by omega) | exact NJ (by omega) (by omega) hai | (refine (decide_eq_false fun g => ?_).symm; have g2 := g.2 i (by omega); have r0 := g2 0 (by omega); have r1 := g2 1 (by omega); have r2 := g2 2 (by omega); have r3 := g2 3 (by omega); have r4 := g2 4 (by omega); have r5 := g2 5 (by omega); simp_all; done))
theorem Ve (n m : Nat) (P Q : Nat -> Nat -> Int) (hn : n <= 9223372036854775807) (hm : m <= 9223372036854775807) : aA Tryz.prog 113 [.one (.lst 6 n (dY P)), .one (.lst 6 m (dY Q))] (.t (.one (.g (.bool (Ba 6 n m P Q))))) := by
  refine ak Tryz.func113 rfl (by rw [Tryz.ntmps113]; simp) ?_
  simp only [Tryz.ntmps113, zM, PT.tv, au, Nat.zero_add, Nat.reduceAdd]
  repeat' (first
 | ((with_reducible show AW _ _ _ _); first
 | (with_reducible first | refine aS (fun K hK => ?_) | refine aI ?_ | refine aX ?_ | refine aT ?_ | refine aC ?_ | refine aB ?_)
 | (first
 | (with_reducible first | refine aP 0 [0,1] ?_ | refine aP 1 [0,1] ?_ | refine aP 2 [] ?_ | refine aP 3 [0,1] ?_ | refine aP 4 [0,1,5] ?_ | refine aP 5 [0,1,5] ?_)
 | ((with_reducible refine aR (c := Code.region 6 _ true) [0,1,5] ?_); (with_reducible refine aD ?_ ?_ ?_ ?_); (focus kernel_rfl); (focus kernel_rfl); (focus kernel_rfl))
 | (with_reducible first | refine aP 7 [] ?_ | refine aP 8 [] ?_))
 | ((with_reducible show AW _ (Code.loop _) _ _); first
 | ((with_reducible refine aL (c := (Code.seq (Code.seq (Code.region 4 _ _) _) _)) (ι := Nat) [0,1] (fun i => [(5, iA .i64 (i : Int))]) (fun i => []) (fun i => i <= n /\ (∀ i', i' < i -> eqI 6 P Q i')) (fun i => n - i) 0 ?lg4 ?l14 ?l24 ?li4 ?lr4); (case' lg4 => rintro i _); (case' li4 => try (exact ⟨Nat.zero_le _, fun i hi => absurd hi (Nat.not_lt_zero _)⟩)); (case' lr4 => rintro i ⟨hi, hai⟩ KR hR4; simp only [bD, dD, hset, lk, if_true, if_false, xE, reduceIte, zN, Go.Sea.nk]))))
 | (((with_reducible refine And.intro ?_ ?_)); focus (omega))
 | (with_reducible refine aJ ?_)
 | ((with_reducible show bL _ _ _ _ _ _); first
 | ((with_reducible refine aM ?_ ?_) <;> (intro hc; (try simp only [zB, zC, reduceCtorEq] at hc); (try (exfalso; contradiction)))))
 | ((with_reducible refine And.intro ?_ ?_); focus ((with_reducible show gV _ _ _ = true); kernel_rfl))
 | ((with_reducible refine hR4 _ (i + 1) ?_); (try clear hR4 KR))
 | ((with_reducible refine Told.mk ?_); simp only [go_sem, reduceIte, reduceCtorEq, xA, xL, xD, xE, xM, xS, xB, dY, Go.Sea.nk] <;> ((((try simp (disch := omega) only [aY, Int.natCast_add, Int.cast_ofNat_Int, and_true, true_and, and_self]); (repeat' (first | omega | (with_reducible refine And.intro ?_ ?_) | ((exact all_succ (by assumption) (by (intro o ho; rcases o with _ | _ | _ | _ | _ | _ | o <;> first | omega | (simp_all; done))))))); done))))
 | ((fail_if_success (with_reducible show AW _ _ _ _)); simp (maxSteps := 2000000) only [go_sem, reduceIte, reduceCtorEq, xA, xL, xD, xE, xM, xS, xB, Tryz.f113, dY, Go.Sea.nk])
 | ((with_reducible refine hK _ ?_); clear hK K)
 | (with_reducible apply_assumption -exfalso only [*]))
  all_goals (first | exact FB (by omega) | exact NJ (by omega) (by omega) hai | (refine (decide_eq_false fun g => ?_).symm; have g2 := g.2 i (by omega); have r0 := g2 0 (by omega); have r1 := g2 1 (by omega); have r2 := g2 2 (by omega); have r3 := g2 3 (by omega); have r4 := g2 4 (by omega); have r5 := g2 5 (by omega); simp_all; done))
end Go.Proofs.YtcfechepbamhkaaGreat
set_option maxRecDepth 100000
set_option maxHeartbeats 4000000
namespace Go.Proofs.YtcfechepbamhkaaGreat
open Go.RowKit Go.Sea
open Nat renaming reduceAdd -> xA, reduceLT -> xL, reduceLeDiff -> xD, reduceEqDiff -> xE, reduceMul -> xM, reduceSub -> xS, reduceBEq -> xB
theorem IB : aK Tryz.prog 146 = true := by kernel_rfl
theorem JM : aK Tryz.prog 147 = true := by kernel_rfl
theorem Hg : aK Tryz.prog 112 = true := by kernel_rfl
theorem GU : aK Tryz.prog 113 = true := by kernel_rfl
theorem Iy : aK Tryz.prog 169 = true := by kernel_rfl
theorem Gq : aK Tryz.prog 170 = true := by kernel_rfl
theorem GJ : aK Tryz.prog 171 = true := by kernel_rfl
theorem Vk : aK Tryz.prog 180 = true := by kernel_rfl
theorem TM : aK Tryz.prog 182 = true := by kernel_rfl
theorem XM : aK Tryz.prog 183 = true := by kernel_rfl
theorem YI : aK Tryz.prog 184 = true := by kernel_rfl
theorem WK : aK Tryz.prog 185 = true := by kernel_rfl
theorem abo : dF Tryz.prog 64 0 = some 0 := by kernel_rfl
theorem adg : dF Tryz.prog 64 1 = some 1 := by kernel_rfl
theorem abd : dF Tryz.prog 64 2 = some 2 := by kernel_rfl
theorem aa3 : dF Tryz.prog 64 3 = some 4 := by kernel_rfl
theorem Z7 : dF Tryz.prog 64 4 = some 5 := by kernel_rfl
theorem aa9 : dF Tryz.prog 64 5 = some 6 := by kernel_rfl
theorem abv : dF Tryz.prog 64 6 = some 7 := by kernel_rfl
theorem Zt : dF Tryz.prog 64 7 = some 8 := by kernel_rfl
theorem aiU : lG Tryz.prog 61 = some (false, 1) := by kernel_rfl
theorem aiC : lG Tryz.prog 62 = some (false, 1) := by kernel_rfl
attribute [go_sem] IB JM Hg GU Iy Gq GJ Vk TM XM YI WK abo adg abd aa3 Z7 aa9 abv Zt aiU aiC
structure aN where
  id : Int
  kd : Int
  x : Int
  y : Int
  r : Int
  n : Nat
  P : Nat -> Nat -> Int
  d : Int
  s : Int
  m : Nat
  S : Nat -> Nat -> Int
structure aN.Ok (f : aN) : Prop where
  n : f.n <= 9223372036854775807
  m : f.m <= 9223372036854775807
def qZ (x y r : Int) : Bool := fV (x - r) (y - r) && fV (x + r) (y + r)
def C8 (id kd x y r : Int) (n : Nat) (d s : Int) (m : Nat) (pt rm po se : Bool) : Prop :=
  (1 <= id /\ id <= 100000) /\ (0 <= s /\ s <= 999) /\ (0 <= d /\ d <= 100000) /\ (0 <= r /\ r <= 100000) ∧
  ((kd = 1 \/ kd = 2 \/ kd = 5) /\ pt = true /\ rm = true /\ n = 0 /\ m = 0 \/ (kd = 3 \/ kd = 6) /\ (kd = 6 -> d = 0) /\ po = true /\ x = 0 /\ y = 0 /\ r = 0 /\ m = 0 \/ kd = 4 /\ pt = true /\ se = true /\ r = 0 /\ d = 0 /\ n = 0)
instance (id kd x y r : Int) (n : Nat) (d s : Int) (m : Nat) (pt rm po se : Bool) : Decidable (C8 id kd x y r n d s m pt rm po se) := by unfold C8; infer_instance
def jg (f : aN) : Bool := decide (C8 f.id f.kd f.x f.y f.r f.n f.d f.s f.m (fV f.x f.y) (qZ f.x f.y f.r) (zh f.n f.P) (uI f.m f.S))
def uP (f g : aN) : Bool := decide (f.id = g.id /\ f.kd = g.kd /\ f.x = g.x /\ f.y = g.y /\ f.r = g.r /\ f.d = g.d /\ f.s = g.s) && (Ba 2 f.n g.n f.P g.P && Ba 6 f.m g.m f.S g.S)
theorem MG (x y : Int) : fV x y = true ↔ (-1000000 <= x /\ x <= 1000000 /\ -1000000 <= y /\ y <= 1000000) := by
  unfold fV; simp only [Bool.and_eq_true, decide_eq_true_eq, and_assoc]
theorem jG (f : aN) : jg f = true ↔ C8 f.id f.kd f.x f.y f.r f.n f.d f.s f.m (fV f.x f.y) (qZ f.x f.y f.r) (zh f.n f.P) (uI f.m f.S) := decide_eq_true_iff
def Ho (f : aN) : Prop := (1 <= f.id /\ f.id <= 100000) /\ (0 <= f.s /\ f.s <= 999) /\ (0 <= f.d /\ f.d <= 100000) /\ (0 <= f.r /\ f.r <= 100000)
theorem ae9 {f : aN} (h : ¬ Ho f) : false = jg f := (decide_eq_false fun g => h ⟨g.1, g.2.1, g.2.2.1, g.2.2.2.1⟩).symm
theorem afh {f : aN} (h : f.kd ≠ 1 /\ f.kd ≠ 2 /\ f.kd ≠ 5 /\ f.kd ≠ 6 /\ f.kd ≠ 3 /\ f.kd ≠ 4) : false = jg f := (decide_eq_false fun g => by
  rcases g.2.2.2.2 with k | k | k <;> omega).symm
theorem agt {f : aN} (h : f.kd = 6) (hd : f.d > 0) : false = jg f := (decide_eq_false fun g => by
  rcases g.2.2.2.2 with k | k | k
  · omega
  · have := k.2.1 h; omega
  · omega).symm
theorem ae8 {f : aN} (hr : Ho f) (hk : f.kd = 1 \/ f.kd = 2 \/ f.kd = 5) : (fV f.x f.y && qZ f.x f.y f.r && (f.n : Int) == 0 && (f.m : Int) == 0) = jg f := by
  refine Bool.eq_iff_iff.2 ?_
  rw [jG]; unfold C8; simp only [Bool.and_eq_true, beq_iff_eq]
  constructor
  · rintro ⟨⟨⟨h1, h2⟩, h3⟩, h4⟩; exact ⟨hr.1, hr.2.1, hr.2.2.1, hr.2.2.2, Or.inl ⟨hk, h1, h2, by omega, by omega⟩⟩
  · rintro ⟨_, _, _, _, h | h | h⟩
    · exact ⟨⟨⟨h.2.1, h.2.2.1⟩, by omega⟩, by omega⟩
    · omega
    · omega
theorem agl {f : aN} (hr : Ho f) (hk : f.kd = 3 \/ f.kd = 6) (hd : f.kd = 6 -> f.d = 0) : (zh f.n f.P && (f.x == 0 && f.y == 0) && f.r == 0 && (f.m : Int) == 0) = jg f := by
  refine Bool.eq_iff_iff.2 ?_
  rw [jG]; unfold C8; simp only [Bool.and_eq_true, beq_iff_eq]
  constructor
  · rintro ⟨⟨⟨h1, h2⟩, h3⟩, h4⟩; exact ⟨hr.1, hr.2.1, hr.2.2.1, hr.2.2.2, Or.inr (Or.inl ⟨hk, hd, h1, h2.1, h2.2, h3, by omega⟩)⟩
  · rintro ⟨_, _, _, _, h | h | h⟩
    · omega
    · exact ⟨⟨⟨h.2.2.1, h.2.2.2.1, h.2.2.2.2.1⟩, h.2.2.2.2.2.1⟩, by omega⟩
    · omega
theorem agU {f : aN} (hr : Ho f) (hk : f.kd = 4) : (fV f.x f.y && uI f.m f.S && f.r == 0 && f.d == 0 && (f.n : Int) == 0) = jg f := by
  refine Bool.eq_iff_iff.2 ?_
  rw [jG]; unfold C8; simp only [Bool.and_eq_true, beq_iff_eq]
  constructor
  · rintro ⟨⟨⟨⟨h1, h2⟩, h3⟩, h4⟩, h5⟩; exact ⟨hr.1, hr.2.1, hr.2.2.1, hr.2.2.2, Or.inr (Or.inr ⟨hk, h1, h2, h3, h4, by omega⟩)⟩
  · rintro ⟨_, _, _, _, h | h | h⟩
    · omega
    · omega
    · exact ⟨⟨⟨⟨h.2.1, h.2.2.1⟩, h.2.2.2.1⟩, h.2.2.2.2.1⟩, by omega⟩
theorem acH (x y r : Int) (hp : fV x y = true) (hr : 0 <= r /\ r <= 100000) : aA Tryz.prog 169 [.agg [.g (.int .i64 (x)), .g (.int .i64 (y))], .one (.g (.int .i64 r))] (.t (.one (.g (.bool (qZ x y r))))) := by
  have hq := (MG _ _).1 hp
  refine ak Tryz.func169 rfl (by rw [Tryz.ntmps169]; simp) ?_
  simp only [Tryz.ntmps169, zM, PT.tv, au, Nat.zero_add, Nat.reduceAdd]
  repeat' (first
 | ((with_reducible show AW _ _ _ _); first
 | (with_reducible first | refine aS (fun K hK => ?_) | refine aT ?_)
 | (first
 | (with_reducible first | refine aP 0 [0,1] ?_ | refine aP 1 [1,2] ?_)))
 | (((with_reducible refine Need.mk ?_)); focus (first | exact True.intro | (intro _; (with_reducible assumption))))
 | (with_reducible refine aJ ?_)
 | ((with_reducible show aW _ _ _ _ _ _ _ _ _ _); first
 | (refine aF (k := 144) jC (yQ _ _) ?_ ?_))
 | ((with_reducible show bM _ _ _ _ _ _ _ _ _ _); first
 | (refine aO (k := 144) jC (fun hg => yQ _ _) ?_ ?_))
 | ((fail_if_success (with_reducible show AW _ _ _ _)); simp (maxSteps := 2000000) only [go_sem, reduceIte, reduceCtorEq, xA, xL, xD, xE, xM, xS, xB, Tryz.f169])
 | ((fail_if_success (with_reducible show AW _ _ _ _)); simp (disch := omega) only [aY, jy, jH])
 | ((with_reducible refine hK _ ?_); clear hK K))
  all_goals ((unfold qZ; simp_all; done))
theorem acg (x y r : Int) (hp : fV x y = true) (hr : 0 <= r /\ r <= 100000) : aA Tryz.prog 145 [.agg [.g (.int .i64 (x)), .g (.int .i64 (y))], .one (.g (.int .i64 r))] (.t (.one (.g (.bool (qZ x y r))))) := by
  have hq := (MG _ _).1 hp
  refine ak Tryz.func145 rfl (by rw [Tryz.ntmps145]; simp) ?_
  simp only [Tryz.ntmps145, zM, PT.tv, au, Nat.zero_add, Nat.reduceAdd]
  repeat' (first
 | ((with_reducible show AW _ _ _ _); first
 | (with_reducible first | refine aS (fun K hK => ?_) | refine aT ?_)
 | (first
 | (with_reducible first | refine aP 0 [0,1] ?_ | refine aP 1 [1,2] ?_)))
 | (((with_reducible refine Need.mk ?_)); focus (first | exact True.intro | (intro _; (with_reducible assumption))))
 | (with_reducible refine aJ ?_)
 | ((with_reducible show aW _ _ _ _ _ _ _ _ _ _); first
 | (refine aF (k := 144) jC (yQ _ _) ?_ ?_))
 | ((with_reducible show bM _ _ _ _ _ _ _ _ _ _); first
 | (refine aO (k := 144) jC (fun hg => yQ _ _) ?_ ?_))
 | ((fail_if_success (with_reducible show AW _ _ _ _)); simp (maxSteps := 2000000) only [go_sem, reduceIte, reduceCtorEq, xA, xL, xD, xE, xM, xS, xB, Tryz.f145])
 | ((fail_if_success (with_reducible show AW _ _ _ _)); simp (disch := omega) only [aY, jy, jH])
 | ((with_reducible refine hK _ ?_); clear hK K))
  all_goals ((unfold qZ; simp_all; done))
theorem XC (f : aN) (ho : f.Ok) : aA Tryz.prog 133 [.agg [.g (.int .i64 (f.id)), .g (.int .i64 (f.kd)), .g (.int .i64 (f.x)), .g (.int .i64 (f.y)), .g (.int .i64 (f.r)), .lst 2 f.n (dY f.P), .g (.int .i64 (f.d)), .g (.int .i64 (f.s)), .lst 6 f.m (dY f.S)]] (.t (.one (.g (.bool (jg f))))) := by
  refine ak Tryz.func133 rfl (by rw [Tryz.ntmps133]; simp) ?_
  simp only [Tryz.ntmps133, zM, PT.tv, au, Nat.zero_add, Nat.reduceAdd]
  repeat' (first
 | ((with_reducible show AW _ _ _ _); first
 | (with_reducible first | refine aS (fun K hK => ?_) | refine aI ?_ | refine aX ?_ | refine aT ?_ | refine aC ?_ | refine aB ?_)
 | (first
 | (with_reducible first | refine aP 0 [0] ?_ | refine aP 1 [1] ?_ | refine aP 2 [] ?_ | refine aP 3 [1] ?_ | refine aP 4 [1,42] ?_ | refine aP 5 [1,42] ?_ | refine aP 6 [1,42] ?_ | refine aP 7 [1,42] ?_ | refine aP 8 [1,42] ?_ | refine aP 9 [1,42] ?_ | refine aP 10 [1] ?_ | refine aP 11 [1] ?_ | refine aP 12 [] ?_ | refine aP 13 [1] ?_ | refine aP 14 [1] ?_ | refine aP 15 [] ?_)))
 | ((first | (with_reducible refine And.intro ?_ ?_) | (with_reducible refine Need.mk ?_)); focus (first | exact True.intro | (intro _; (with_reducible assumption)) | (simp; done)))
 | (with_reducible refine aJ ?_)
 | ((with_reducible show bL _ _ _ _ _ _); first
 | ((with_reducible refine aM ?_ ?_) <;> (intro hc; (try simp only [zB, zC, reduceCtorEq] at hc); (try (exfalso; contradiction)))))
 | ((with_reducible show aW _ _ _ _ _ _ _ _ _ _); first
 | (refine aF (k := 144) jC (yQ _ _) ?_ ?_)
 | (refine aF (k := 170) Gq (aiD _ _ ho.n) ?_ ?_))
 | ((with_reducible show bM _ _ _ _ _ _ _ _ _ _); first
 | (refine aO (k := 169) Iy (fun hg => acH _ _ _ (by assumption) (by omega)) ?_ ?_)
 | (refine aO (k := 171) GJ (fun hg => agM _ _ (by have := ho.m; omega)) ?_ ?_))
 | ((fail_if_success (with_reducible show AW _ _ _ _)); simp (maxSteps := 2000000) only [go_sem, reduceIte, reduceCtorEq, xA, xL, xD, xE, xM, xS, xB, Tryz.f133, Go.Sea.nk])
 | ((with_reducible refine hK _ ?_); clear hK K)
 | (with_reducible apply_assumption -exfalso only [*]))
  all_goals (first | exact ae9 (by unfold Ho; omega) | exact agt (by omega) (by omega) | exact afh (by omega) | exact ae8 (by unfold Ho; omega) (by omega) | exact agl (by unfold Ho; omega) (by omega) (by omega) | exact agU (by unfold Ho; omega) (by omega))
theorem acK (f g : aN) (ho : f.Ok) (ho2 : g.Ok) : aA Tryz.prog 108 [.agg [.g (.int .i64 (f.id)), .g (.int .i64 (f.kd)), .g (.int .i64 (f.x)), .g (.int .i64 (f.y)), .g (.int .i64 (f.r)), .lst 2 f.n (dY f.P), .g (.int .i64 (f.d)), .g (.int .i64 (f.s)), .lst 6 f.m (dY f.S)], .agg [.g (.int .i64 (g.id)), .g (.int .i64 (g.kd)), .g (.int .i64 (g.x)), .g (.int .i64 (g.y)), .g (.int .i64 (g.r)), .lst 2 g.n (dY g.P), .g (.int .i64 (g.d)), .g (.int .i64 (g.s)), .lst 6 g.m (dY g.S)]] (.t (.one (.g (.bool (uP f g))))) := by
  refine ak Tryz.func108 rfl (by rw [Tryz.ntmps108]; simp) ?_
  simp only [Tryz.ntmps108, zM, PT.tv, au, Nat.zero_add, Nat.reduceAdd]
  repeat' (first
 | ((with_reducible show AW _ _ _ _); first
 | (with_reducible first | refine aS (fun K hK => ?_) | refine aT ?_)
 | (first
 | (with_reducible first | refine aP 0 [0,1] ?_ | refine aP 1 [2,3] ?_)))
 | (((with_reducible refine Need.mk ?_)); focus ((intro _; (with_reducible assumption))))
 | (with_reducible refine aJ ?_)
 | ((with_reducible show bM _ _ _ _ _ _ _ _ _ _); first
 | (refine aO (k := 146) IB (fun hg => afq _ _ _ _ ho.n ho2.n) ?_ ?_)
 | (refine aO (k := 147) JM (fun hg => Zn _ _ _ _ ho.m ho2.m) ?_ ?_))
 | ((fail_if_success (with_reducible show AW _ _ _ _)); simp (maxSteps := 2000000) only [go_sem, reduceIte, reduceCtorEq, xA, xL, xD, xE, xM, xS, xB, Tryz.f108, Go.Sea.nk])
 | ((with_reducible refine hK _ ?_); clear hK K))
  all_goals ((unfold uP; refine Bool.eq_iff_iff.2 ?_; simp only [decide_eq_true_eq, Bool.and_eq_true, beq_iff_eq]; constructor <;> (intro h; simp_all; done)))
theorem Jb (f g : aN) (ho : f.Ok) (ho2 : g.Ok) : aA Tryz.prog 64 [.agg [.g (.int .i64 (f.id)), .g (.int .i64 (f.kd)), .g (.int .i64 (f.x)), .g (.int .i64 (f.y)), .g (.int .i64 (f.r)), .lst 2 f.n (dY f.P), .g (.int .i64 (f.d)), .g (.int .i64 (f.s)), .lst 6 f.m (dY f.S)], .agg [.g (.int .i64 (g.id)), .g (.int .i64 (g.kd)), .g (.int .i64 (g.x)), .g (.int .i64 (g.y)), .g (.int .i64 (g.r)), .lst 2 g.n (dY g.P), .g (.int .i64 (g.d)), .g (.int .i64 (g.s)), .lst 6 g.m (dY g.S)]] (.t (.one (.g (.bool (uP f g))))) := by
  refine ak Tryz.func64 rfl (by rw [Tryz.ntmps64]; simp) ?_
  simp only [Tryz.ntmps64, zM, PT.tv, au, Nat.zero_add, Nat.reduceAdd]
  repeat' (first
 | ((with_reducible show AW _ _ _ _); first
 | (with_reducible first | refine aS (fun K hK => ?_) | refine aI ?_ | refine aT ?_ | refine aC ?_)
 | (first
 | (with_reducible first | refine aP 0 [0,1] ?_ | refine aP 1 [2,3] ?_ | refine aP 2 [] ?_ | refine aP 3 [2,3] ?_)))
 | ((first | (with_reducible refine And.intro ?_ ?_) | (with_reducible refine Need.mk ?_)); focus (first | exact True.intro | (intro _; (with_reducible assumption)) | (simp; done)))
 | (with_reducible refine aJ ?_)
 | ((with_reducible show bL _ _ _ _ _ _); first
 | ((with_reducible refine aM ?_ ?_) <;> (intro hc; (try simp only [zB, zC, reduceCtorEq] at hc); (try (exfalso; contradiction)))))
 | ((with_reducible show aW _ _ _ _ _ _ _ _ _ _); first
 | (refine aF (k := 112) Hg (ZH _ _ _ _ ho.n ho2.n) ?_ ?_))
 | ((with_reducible show bM _ _ _ _ _ _ _ _ _ _); first
 | (refine aO (k := 113) GU (fun hg => Ve _ _ _ _ ho.m ho2.m) ?_ ?_))
 | ((fail_if_success (with_reducible show AW _ _ _ _)); simp (maxSteps := 2000000) only [go_sem, reduceIte, reduceCtorEq, xA, xL, xD, xE, xM, xS, xB, Tryz.f64, Go.Sea.nk])
 | ((with_reducible refine hK _ ?_); clear hK K))
  all_goals (first | (unfold uP; refine Bool.eq_iff_iff.2 ?_; simp only [decide_eq_true_eq, Bool.and_eq_true, beq_iff_eq, reduceCtorEq, false_iff]; omega) | (unfold uP; rw [decide_eq_true (by omega)]; rfl))
end Go.Proofs.YtcfechepbamhkaaGreat
