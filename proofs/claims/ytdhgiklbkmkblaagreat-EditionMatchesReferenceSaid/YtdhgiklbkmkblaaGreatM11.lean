/- Part 11 of 16: contracts of functions and plain laws for the root text. No condition. -/
import Derived.Test.YtdhgiklbkmkblaaGreatM01
import Derived.Test.YtdhgiklbkmkblaaGreatM02
import Derived.Test.YtdhgiklbkmkblaaGreatM03
import Derived.Test.YtdhgiklbkmkblaaGreatM04
import Derived.Test.YtdhgiklbkmkblaaGreatM05
import Derived.Test.YtdhgiklbkmkblaaGreatM06
import Derived.Test.YtdhgiklbkmkblaaGreatM07
import Derived.Test.YtdhgiklbkmkblaaGreatM08
import Derived.Test.YtdhgiklbkmkblaaGreatM09
import Derived.Test.YtdhgiklbkmkblaaGreatM10
set_option linter.unusedVariables false
set_option linter.unusedSimpArgs false
set_option maxRecDepth 100000
set_option maxHeartbeats 4000000
namespace Go.Proofs.YtdhgiklbkmkblaaGreat
open Go.RowKit Go.Sea
open Nat renaming reduceAdd → xA, reduceLT → xL, reduceLeDiff → xD, reduceEqDiff → xE, reduceMul → xM, reduceSub → xS, reduceBEq → xB
theorem fnok_130 : fnOk Tryz.prog 130 = true := by kernel_rfl
theorem fnok_131 : fnOk Tryz.prog 131 = true := by kernel_rfl
theorem fnok_132 : fnOk Tryz.prog 132 = true := by kernel_rfl
theorem fnok_133 : fnOk Tryz.prog 133 = true := by kernel_rfl
attribute [go_sem] fnok_130 fnok_131 fnok_132 fnok_133
theorem lstF_ok {l : List Feat} (h : ∀ f, f ∈ l → featB f = true) : ∀ f, f ∈ l → f.Ok := fun f hf => feat_ok (h f hf)
theorem run_z {l : List Feat} {o : Nat → OpS} {i : Nat} (h : (doL (runL l o i) (o i)).1 = 0) : doR (runL l o i) (o i) = runL l o (i + 1) := by unfold doR; rw [if_pos h]; rfl
theorem lstF_LF {f : Nat → Feat} {n : Nat} {i q : Nat} (hi : i < n) : featF f i q = lstF (LF f n) i q := by
  have : f i = (LF f n).getD i feat0 := by rw [List.getD, LF_get hi]; rfl
  unfold lstF featF; rw [this]
theorem rchg_3 (f : Feat) (o : OpS) (ho : f.Ok) (ho2 : o.f.Ok) (hk : o.kd = 3) : CallsP Tryz.prog 133 [.agg [.g (.int .i64 (f.id)), .g (.int .i64 (f.kd)), .g (.int .i64 (f.x)), .g (.int .i64 (f.y)), .g (.int .i64 (f.r)), .lst 2 f.n (ptI f.P), .g (.int .i64 (f.d)), .g (.int .i64 (f.s)), .lst 6 f.m (ptI f.S)], .agg [.g (.int .i64 (o.kd)), .g (.int .i64 (o.id)), .g (.int .i64 (o.f.id)), .g (.int .i64 (o.f.kd)), .g (.int .i64 (o.f.x)), .g (.int .i64 (o.f.y)), .g (.int .i64 (o.f.r)), .lst 2 o.f.n (ptI o.f.P), .g (.int .i64 (o.f.d)), .g (.int .i64 (o.f.s)), .lst 6 o.f.m (ptI o.f.S), .g (.int .i64 (o.x)), .g (.int .i64 (o.y)), .g (.int .i64 (o.r)), .g (.int .i64 (o.d)), .g (.int .i64 (o.s))]] (.tup [.agg [.g (.int .i64 ((chgX f o).id)), .g (.int .i64 ((chgX f o).kd)), .g (.int .i64 ((chgX f o).x)), .g (.int .i64 ((chgX f o).y)), .g (.int .i64 ((chgX f o).r)), .lst 2 (chgX f o).n (ptI (chgX f o).P), .g (.int .i64 ((chgX f o).d)), .g (.int .i64 ((chgX f o).s)), .lst 6 (chgX f o).m (ptI (chgX f o).S)], .one (.g (.int .i64 (chgE f o)))]) := by
  refine CallsP_of Tryz.func133 rfl (by rw [Tryz.ntmps133]; simp) ?_
  simp only [Tryz.ntmps133, zM, PT.tv, argEnv, Nat.zero_add, Nat.reduceAdd]
  repeat' (first
 | ((with_reducible show AW _ _ _ _); first
 | (with_reducible first | refine aS (fun K hK => ?_) | refine aI ?_ | refine aT ?_ | refine aC ?_ | refine aB ?_)
 | (first
 | (with_reducible first | refine aP 0 [0,1] ?_ | refine aP 1 [2,3,4] ?_ | refine aP 2 [2,3,4,6] ?_ | refine aP 3 [2,3,4,6,11] ?_ | refine aP 4 [2,3,4,6] ?_ | refine aP 5 [2,4] ?_ | refine aP 6 [2,3,4] ?_ | refine aP 7 [2,3,4] ?_ | refine aP 14 [2,4] ?_)))
 | ((first | (with_reducible refine And.intro ?_ ?_) | (with_reducible refine Need.mk ?_)); focus (first | exact True.intro | (simp; done) | (simp; omega)))
 | (with_reducible refine retK_n ?_)
 | ((with_reducible show condN _ _ _ _ _ _); first
 | ((with_reducible refine condN_t ?_ ?_) <;> (intro hc; (try simp only [zB, zC, reduceCtorEq] at hc); (try (exfalso; contradiction)))))
 | ((with_reducible show callN _ _ _ _ _ _ _ _ _ _); first
 | (refine callN_q (k := 157) fnok_157 (rpolyg_p f.kd) ?_ ?_))
 | ((fail_if_success (with_reducible show AW _ _ _ _)); simp (maxSteps := 2000000) only [go_sem, reduceIte, reduceCtorEq, xA, xL, xD, xE, xM, xS, xB, Tryz.f133])
 | ((with_reducible refine hK _ ?_); clear hK K))
  all_goals first
    | (have e := chg_e (f := f) (o := o) (by omega); rw [e.1, e.2.1]; repeat' (first | exact rfl | (with_reducible refine And.intro ?_ ?_) | (intro i q hi hq; exact IV.eqv_refl _)))
    | (have e0 := chg_0 (f := f) (o := o) (by omega); have e := chg_3 e0.1 (by omega); rw [e0.1, e0.2, e.1]; repeat' (first | exact rfl | (with_reducible refine And.intro ?_ ?_) | (intro i q hi hq; exact IV.eqv_refl _)))
    | (have e0 := chg_0 (f := f) (o := o) (by omega); have e := chg_4 e0.1 (by omega); rw [e0.1, e0.2, e.1]; repeat' (exact rfl))
    | (have e0 := chg_0 (f := f) (o := o) (by omega); have e := chg_5 e0.1 (by omega); rw [e0.1, e0.2, e.1]; repeat' (exact rfl))
    | skip
theorem rchg_4 (f : Feat) (o : OpS) (ho : f.Ok) (ho2 : o.f.Ok) (hk : o.kd = 4) : CallsP Tryz.prog 133 [.agg [.g (.int .i64 (f.id)), .g (.int .i64 (f.kd)), .g (.int .i64 (f.x)), .g (.int .i64 (f.y)), .g (.int .i64 (f.r)), .lst 2 f.n (ptI f.P), .g (.int .i64 (f.d)), .g (.int .i64 (f.s)), .lst 6 f.m (ptI f.S)], .agg [.g (.int .i64 (o.kd)), .g (.int .i64 (o.id)), .g (.int .i64 (o.f.id)), .g (.int .i64 (o.f.kd)), .g (.int .i64 (o.f.x)), .g (.int .i64 (o.f.y)), .g (.int .i64 (o.f.r)), .lst 2 o.f.n (ptI o.f.P), .g (.int .i64 (o.f.d)), .g (.int .i64 (o.f.s)), .lst 6 o.f.m (ptI o.f.S), .g (.int .i64 (o.x)), .g (.int .i64 (o.y)), .g (.int .i64 (o.r)), .g (.int .i64 (o.d)), .g (.int .i64 (o.s))]] (.tup [.agg [.g (.int .i64 ((chgX f o).id)), .g (.int .i64 ((chgX f o).kd)), .g (.int .i64 ((chgX f o).x)), .g (.int .i64 ((chgX f o).y)), .g (.int .i64 ((chgX f o).r)), .lst 2 (chgX f o).n (ptI (chgX f o).P), .g (.int .i64 ((chgX f o).d)), .g (.int .i64 ((chgX f o).s)), .lst 6 (chgX f o).m (ptI (chgX f o).S)], .one (.g (.int .i64 (chgE f o)))]) := by
  refine CallsP_of Tryz.func133 rfl (by rw [Tryz.ntmps133]; simp) ?_
  simp only [Tryz.ntmps133, zM, PT.tv, argEnv, Nat.zero_add, Nat.reduceAdd]
  repeat' (first
 | ((with_reducible show AW _ _ _ _); first
 | (with_reducible first | refine aS (fun K hK => ?_) | refine aI ?_ | refine aT ?_ | refine aC ?_ | refine aB ?_)
 | (first
 | (with_reducible first | refine aP 0 [0,1] ?_ | refine aP 1 [2,3,4] ?_ | refine aP 2 [2,3,4,6] ?_ | refine aP 3 [2,3,4,6,11] ?_ | refine aP 8 [2,3,4,11] ?_ | refine aP 9 [2,3,4] ?_ | refine aP 10 [2,4] ?_ | refine aP 11 [2,3,4] ?_ | refine aP 14 [2,4] ?_)))
 | ((first | (with_reducible refine And.intro ?_ ?_) | (with_reducible refine Need.mk ?_)); focus (first | exact True.intro | (simp; done)))
 | (with_reducible refine retK_n ?_)
 | ((with_reducible show condN _ _ _ _ _ _); first
 | ((with_reducible refine condN_t ?_ ?_) <;> (intro hc; (try simp only [zB, zC, reduceCtorEq] at hc); (try (exfalso; first | contradiction | omega)))))
 | ((with_reducible show callN _ _ _ _ _ _ _ _ _ _); first
 | (refine callN_q (k := 157) fnok_157 (rpolyg_p f.kd) ?_ ?_))
 | ((fail_if_success (with_reducible show AW _ _ _ _)); simp (maxSteps := 2000000) only [go_sem, reduceIte, reduceCtorEq, xA, xL, xD, xE, xM, xS, xB, Tryz.f133])
 | ((with_reducible refine hK _ ?_); clear hK K))
  all_goals first
    | (have e := chg_e (f := f) (o := o) (by omega); rw [e.1, e.2.1]; repeat' (first | exact rfl | (with_reducible refine And.intro ?_ ?_) | (intro i q hi hq; exact IV.eqv_refl _)))
    | (have e0 := chg_0 (f := f) (o := o) (by omega); have e := chg_3 e0.1 (by omega); rw [e0.1, e0.2, e.1]; repeat' (exact rfl))
    | (have e0 := chg_0 (f := f) (o := o) (by omega); have e := chg_4 e0.1 (by omega); rw [e0.1, e0.2, e.1]; repeat' (first | exact rfl | (with_reducible refine And.intro ?_ ?_) | (intro i q hi hq; exact IV.eqv_refl _)))
    | (have e0 := chg_0 (f := f) (o := o) (by omega); have e := chg_5 e0.1 (by omega); rw [e0.1, e0.2, e.1]; repeat' (exact rfl))
    | skip
theorem rchg_5 (f : Feat) (o : OpS) (ho : f.Ok) (ho2 : o.f.Ok) (hk : o.kd = 5) : CallsP Tryz.prog 133 [.agg [.g (.int .i64 (f.id)), .g (.int .i64 (f.kd)), .g (.int .i64 (f.x)), .g (.int .i64 (f.y)), .g (.int .i64 (f.r)), .lst 2 f.n (ptI f.P), .g (.int .i64 (f.d)), .g (.int .i64 (f.s)), .lst 6 f.m (ptI f.S)], .agg [.g (.int .i64 (o.kd)), .g (.int .i64 (o.id)), .g (.int .i64 (o.f.id)), .g (.int .i64 (o.f.kd)), .g (.int .i64 (o.f.x)), .g (.int .i64 (o.f.y)), .g (.int .i64 (o.f.r)), .lst 2 o.f.n (ptI o.f.P), .g (.int .i64 (o.f.d)), .g (.int .i64 (o.f.s)), .lst 6 o.f.m (ptI o.f.S), .g (.int .i64 (o.x)), .g (.int .i64 (o.y)), .g (.int .i64 (o.r)), .g (.int .i64 (o.d)), .g (.int .i64 (o.s))]] (.tup [.agg [.g (.int .i64 ((chgX f o).id)), .g (.int .i64 ((chgX f o).kd)), .g (.int .i64 ((chgX f o).x)), .g (.int .i64 ((chgX f o).y)), .g (.int .i64 ((chgX f o).r)), .lst 2 (chgX f o).n (ptI (chgX f o).P), .g (.int .i64 ((chgX f o).d)), .g (.int .i64 ((chgX f o).s)), .lst 6 (chgX f o).m (ptI (chgX f o).S)], .one (.g (.int .i64 (chgE f o)))]) := by
  refine CallsP_of Tryz.func133 rfl (by rw [Tryz.ntmps133]; simp) ?_
  simp only [Tryz.ntmps133, zM, PT.tv, argEnv, Nat.zero_add, Nat.reduceAdd]
  repeat' (first
 | ((with_reducible show AW _ _ _ _); first
 | (with_reducible first | refine aS (fun K hK => ?_) | refine aT ?_ | refine aC ?_ | refine aB ?_)
 | (first
 | (with_reducible first | refine aP 0 [0,1] ?_ | refine aP 1 [2,3,4] ?_ | refine aP 2 [2,3,4,6] ?_ | refine aP 3 [2,3,4,6,11] ?_ | refine aP 8 [2,3,4,11] ?_ | refine aP 12 [2,3,4,11] ?_ | refine aP 13 [2,3,4] ?_ | refine aP 14 [2,4] ?_)))
 | ((first | (with_reducible refine And.intro ?_ ?_) | (with_reducible refine Need.mk ?_)); focus (exact True.intro))
 | (with_reducible refine retK_n ?_)
 | ((with_reducible show condN _ _ _ _ _ _); first
 | ((with_reducible refine condN_t ?_ ?_) <;> (intro hc; (try simp only [zB, zC, reduceCtorEq] at hc); (try (exfalso; first | contradiction | omega)))))
 | ((with_reducible show callN _ _ _ _ _ _ _ _ _ _); first
 | (refine callN_q (k := 157) fnok_157 (rpolyg_p f.kd) ?_ ?_))
 | ((fail_if_success (with_reducible show AW _ _ _ _)); simp (maxSteps := 2000000) only [go_sem, reduceIte, reduceCtorEq, xA, xL, xD, xE, xM, xS, xB, Tryz.f133])
 | ((with_reducible refine hK _ ?_); clear hK K))
  all_goals first
    | (have e := chg_e (f := f) (o := o) (by omega); rw [e.1, e.2.1]; repeat' (exact rfl))
    | (have e0 := chg_0 (f := f) (o := o) (by omega); have e := chg_3 e0.1 (by omega); rw [e0.1, e0.2, e.1]; repeat' (exact rfl))
    | (have e0 := chg_0 (f := f) (o := o) (by omega); have e := chg_4 e0.1 (by omega); rw [e0.1, e0.2, e.1]; repeat' (exact rfl))
    | (have e0 := chg_0 (f := f) (o := o) (by omega); have e := chg_5 e0.1 (by omega); rw [e0.1, e0.2, e.1]; repeat' (first | exact rfl | (with_reducible refine And.intro ?_ ?_) | (intro i q hi hq; exact IV.eqv_refl _)))
    | skip
theorem rdo_p1n (l : List Feat) (o : OpS) (hl : l.length ≤ 1000000) (hf : ∀ f, f ∈ l → f.Ok) (ho : o.f.Ok) (hk : o.kd = 1) (hq : idx l o.id = none) : CallsP Tryz.prog 91 [.one (.lst 9 (l).length (lstF (l))), .agg [.g (.int .i64 (o.kd)), .g (.int .i64 (o.id)), .g (.int .i64 (o.f.id)), .g (.int .i64 (o.f.kd)), .g (.int .i64 (o.f.x)), .g (.int .i64 (o.f.y)), .g (.int .i64 (o.f.r)), .lst 2 o.f.n (ptI o.f.P), .g (.int .i64 (o.f.d)), .g (.int .i64 (o.f.s)), .lst 6 o.f.m (ptI o.f.S), .g (.int .i64 (o.x)), .g (.int .i64 (o.y)), .g (.int .i64 (o.r)), .g (.int .i64 (o.d)), .g (.int .i64 (o.s))]] (.tup [.one (.lst 9 (doR l o).length (lstF (doR l o))), .one (.g (.int .i64 ((doL l o).1)))]) := by
  have hd1 : (o.kd = 1) = True := by simp [hk]
  have hd2 : True := trivial
  have hpl : True := trivial
  refine CallsP_of Tryz.func91 rfl (by rw [Tryz.ntmps91]; simp) ?_
  simp only [Tryz.ntmps91, zM, PT.tv, argEnv, Nat.zero_add, Nat.reduceAdd]
  repeat' (first
 | ((with_reducible show AW _ _ _ _); first
 | (with_reducible first | refine aS (fun K hK => ?_) | refine aI ?_ | refine aT ?_ | refine aC ?_)
 | ((with_reducible first | refine aP 0 [0,1] ?_ | refine aP 1 [0,3] ?_ | refine aP 2 [0,3,6] ?_ | refine aP 3 [0,3,6] ?_ | refine aP 5 [0,3] ?_ | refine aP 6 [] ?_ | refine aP 7 [0,3] ?_)))
 | ((first | (with_reducible refine And.intro ?_ ?_) | (with_reducible refine Need.mk ?_)); focus (exact True.intro))
 | (with_reducible refine retK_n ?_)
 | ((with_reducible show condN _ _ _ _ _ _); first
 | ((with_reducible refine condN_t ?_ ?_) <;> (intro hc; (try simp only [zB, zC, reduceCtorEq] at hc); (try (exfalso; contradiction)))))
 | ((with_reducible show callN _ _ _ _ _ _ _ _ _ _); first
 | (refine callN_q (k := 130) fnok_130 (rindex_n l hl _ hq) ?_ ?_)
 | (refine callN_q (k := 131) fnok_131 (rput_p l hl o.f) ?_ ?_))
 | ((fail_if_success (with_reducible show AW _ _ _ _)); simp (maxSteps := 2000000) only [go_sem, reduceIte, reduceCtorEq, xA, xL, xD, xE, xM, xS, xB, Tryz.f91, lstF, hd1, hd2, Int.reduceEq])
 | ((with_reducible refine hK _ ?_); clear hK K))
  all_goals (first | (have e := rdo_1 hk hq (by omega); rw [e.1, e.2]; (repeat' (first | exact rfl | (with_reducible refine And.intro ?_ ?_) | (intro i q hi hq; exact IV.eqv_refl _))); done) | (have e := rdo_3 hk hq (by omega); rw [e.1, e.2]; (repeat' (first | exact rfl | (with_reducible refine And.intro ?_ ?_))); done))
theorem rdo_p1s (l : List Feat) (o : OpS) (hl : l.length ≤ 1000000) (hf : ∀ f, f ∈ l → f.Ok) (ho : o.f.Ok) (hk : o.kd = 1) (g : Feat) (hq : idx l o.id = some g) : CallsP Tryz.prog 91 [.one (.lst 9 (l).length (lstF (l))), .agg [.g (.int .i64 (o.kd)), .g (.int .i64 (o.id)), .g (.int .i64 (o.f.id)), .g (.int .i64 (o.f.kd)), .g (.int .i64 (o.f.x)), .g (.int .i64 (o.f.y)), .g (.int .i64 (o.f.r)), .lst 2 o.f.n (ptI o.f.P), .g (.int .i64 (o.f.d)), .g (.int .i64 (o.f.s)), .lst 6 o.f.m (ptI o.f.S), .g (.int .i64 (o.x)), .g (.int .i64 (o.y)), .g (.int .i64 (o.r)), .g (.int .i64 (o.d)), .g (.int .i64 (o.s))]] (.tup [.one (.lst 9 (doR l o).length (lstF (doR l o))), .one (.g (.int .i64 ((doL l o).1)))]) := by
  have hd1 : (o.kd = 1) = True := by simp [hk]
  have hd2 : True := trivial
  have hpl : posF l o.id < l.length := (posF_s hq).1
  refine CallsP_of Tryz.func91 rfl (by rw [Tryz.ntmps91]; simp) ?_
  simp only [Tryz.ntmps91, zM, PT.tv, argEnv, Nat.zero_add, Nat.reduceAdd]
  repeat' (first
 | ((with_reducible show AW _ _ _ _); first
 | (with_reducible first | refine aS (fun K hK => ?_) | refine aT ?_ | refine aC ?_)
 | ((with_reducible first | refine aP 0 [0,1] ?_ | refine aP 1 [0,3] ?_ | refine aP 2 [0,3,6] ?_ | refine aP 3 [0,3,6] ?_ | refine aP 4 [] ?_)))
 | ((first | (with_reducible refine And.intro ?_ ?_) | (with_reducible refine Need.mk ?_)); focus (exact True.intro))
 | (with_reducible refine retK_n ?_)
 | ((with_reducible show condN _ _ _ _ _ _); first
 | ((with_reducible refine condN_t ?_ ?_) <;> (intro hc; (try simp only [zB, zC, reduceCtorEq] at hc); (try (exfalso; contradiction)))))
 | ((with_reducible show callN _ _ _ _ _ _ _ _ _ _); first
 | (refine callN_q (k := 130) fnok_130 (rindex_s l hl _ g hq) ?_ ?_))
 | ((fail_if_success (with_reducible show AW _ _ _ _)); simp (maxSteps := 2000000) only [go_sem, reduceIte, reduceCtorEq, xA, xL, xD, xE, xM, xS, xB, Tryz.f91, lstF, hd1, hd2, Int.reduceEq])
 | ((with_reducible refine hK _ ?_); clear hK K))
  all_goals ((have e := rdo_2 hk hq; rw [e.1, e.2]; (repeat' (first | exact rfl | (with_reducible refine And.intro ?_ ?_))); done))
theorem rdo_pn (l : List Feat) (o : OpS) (hl : l.length ≤ 1000000) (hf : ∀ f, f ∈ l → f.Ok) (ho : o.f.Ok) (hk : o.kd ≠ 1) (hq : idx l o.id = none) : CallsP Tryz.prog 91 [.one (.lst 9 (l).length (lstF (l))), .agg [.g (.int .i64 (o.kd)), .g (.int .i64 (o.id)), .g (.int .i64 (o.f.id)), .g (.int .i64 (o.f.kd)), .g (.int .i64 (o.f.x)), .g (.int .i64 (o.f.y)), .g (.int .i64 (o.f.r)), .lst 2 o.f.n (ptI o.f.P), .g (.int .i64 (o.f.d)), .g (.int .i64 (o.f.s)), .lst 6 o.f.m (ptI o.f.S), .g (.int .i64 (o.x)), .g (.int .i64 (o.y)), .g (.int .i64 (o.r)), .g (.int .i64 (o.d)), .g (.int .i64 (o.s))]] (.tup [.one (.lst 9 (doR l o).length (lstF (doR l o))), .one (.g (.int .i64 ((doL l o).1)))]) := by
  have hd1 : (o.kd = 1) = False := by simp [hk]
  have hd2 : True := trivial
  have hpl : True := trivial
  refine CallsP_of Tryz.func91 rfl (by rw [Tryz.ntmps91]; simp) ?_
  simp only [Tryz.ntmps91, zM, PT.tv, argEnv, Nat.zero_add, Nat.reduceAdd]
  repeat' (first
 | ((with_reducible show AW _ _ _ _); first
 | (with_reducible first | refine aS (fun K hK => ?_) | refine aI ?_ | refine aT ?_ | refine aC ?_)
 | ((with_reducible first | refine aP 0 [0,1] ?_ | refine aP 1 [0,3] ?_ | refine aP 2 [0,3,6] ?_ | refine aP 8 [0,3,6] ?_ | refine aP 9 [] ?_)))
 | ((first | (with_reducible refine And.intro ?_ ?_) | (with_reducible refine Need.mk ?_)); focus (exact True.intro))
 | (with_reducible refine retK_n ?_)
 | ((with_reducible show condN _ _ _ _ _ _); first
 | ((with_reducible refine condN_t ?_ ?_) <;> (intro hc; (try simp only [zB, zC, reduceCtorEq] at hc); (try (exfalso; contradiction)))))
 | ((with_reducible show callN _ _ _ _ _ _ _ _ _ _); first
 | (refine callN_q (k := 130) fnok_130 (rindex_n l hl _ hq) ?_ ?_))
 | ((fail_if_success (with_reducible show AW _ _ _ _)); simp (maxSteps := 2000000) only [go_sem, reduceIte, reduceCtorEq, xA, xL, xD, xE, xM, xS, xB, Tryz.f91, lstF, hd1, hd2, Int.reduceEq])
 | ((with_reducible refine hK _ ?_); clear hK K))
  all_goals ((have e := rdo_4 hk hq; rw [e.1, e.2]; (repeat' (first | exact rfl | (with_reducible refine And.intro ?_ ?_))); done))
theorem rdo_p2 (l : List Feat) (o : OpS) (hl : l.length ≤ 1000000) (hf : ∀ f, f ∈ l → f.Ok) (ho : o.f.Ok) (hk : o.kd = 2) (g : Feat) (hq : idx l o.id = some g) : CallsP Tryz.prog 91 [.one (.lst 9 (l).length (lstF (l))), .agg [.g (.int .i64 (o.kd)), .g (.int .i64 (o.id)), .g (.int .i64 (o.f.id)), .g (.int .i64 (o.f.kd)), .g (.int .i64 (o.f.x)), .g (.int .i64 (o.f.y)), .g (.int .i64 (o.f.r)), .lst 2 o.f.n (ptI o.f.P), .g (.int .i64 (o.f.d)), .g (.int .i64 (o.f.s)), .lst 6 o.f.m (ptI o.f.S), .g (.int .i64 (o.x)), .g (.int .i64 (o.y)), .g (.int .i64 (o.r)), .g (.int .i64 (o.d)), .g (.int .i64 (o.s))]] (.tup [.one (.lst 9 (doR l o).length (lstF (doR l o))), .one (.g (.int .i64 ((doL l o).1)))]) := by
  have hd1 : (o.kd = 1) = False := by simp [hk]
  have hd2 : (o.kd = 2) = True := by simp [hk]
  have hpl : posF l o.id < l.length := (posF_s hq).1
  refine CallsP_of Tryz.func91 rfl (by rw [Tryz.ntmps91]; simp) ?_
  simp only [Tryz.ntmps91, zM, PT.tv, argEnv, Nat.zero_add, Nat.reduceAdd]
  repeat' (first
 | ((with_reducible show AW _ _ _ _); first
 | (with_reducible first | refine aS (fun K hK => ?_) | refine aI ?_ | refine aT ?_ | refine aC ?_)
 | ((with_reducible first | refine aP 0 [0,1] ?_ | refine aP 1 [0,3] ?_ | refine aP 2 [0,3,6] ?_ | refine aP 8 [0,3,6] ?_ | refine aP 10 [0,3,6] ?_ | refine aP 11 [0,3] ?_)))
 | ((first | (with_reducible refine And.intro ?_ ?_) | (with_reducible refine Need.mk ?_)); focus (exact True.intro))
 | (with_reducible refine retK_n ?_)
 | ((with_reducible show condN _ _ _ _ _ _); first
 | ((with_reducible refine condN_t ?_ ?_) <;> (intro hc; (try simp only [zB, zC, reduceCtorEq] at hc); (try (exfalso; first | contradiction | omega)))))
 | ((with_reducible show callN _ _ _ _ _ _ _ _ _ _); first
 | (refine callN_q (k := 130) fnok_130 (rindex_s l hl _ g hq) ?_ ?_)
 | (refine callN_q (k := 132) fnok_132 (rwit_p l hl _) ?_ ?_))
 | ((fail_if_success (with_reducible show AW _ _ _ _)); simp (maxSteps := 2000000) only [go_sem, reduceIte, reduceCtorEq, xA, xL, xD, xE, xM, xS, xB, Tryz.f91, lstF, hd1, hd2, Int.reduceEq])
 | ((with_reducible refine hK _ ?_); clear hK K))
  all_goals ((have e := rdo_5 hk hq; rw [e.1, e.2]; (repeat' (first | exact rfl | (with_reducible refine And.intro ?_ ?_) | (intro i q hi hq; exact IV.eqv_refl _))); done))
theorem rdo_p3 (l : List Feat) (o : OpS) (hl : l.length ≤ 1000000) (hf : ∀ f, f ∈ l → f.Ok) (ho : o.f.Ok) (hk : o.kd = 3) (g : Feat) (hq : idx l o.id = some g) (hp : posF l o.id < l.length ∧ l.getD (posF l o.id) feat0 = g) : CallsP Tryz.prog 91 [.one (.lst 9 (l).length (lstF (l))), .agg [.g (.int .i64 (o.kd)), .g (.int .i64 (o.id)), .g (.int .i64 (o.f.id)), .g (.int .i64 (o.f.kd)), .g (.int .i64 (o.f.x)), .g (.int .i64 (o.f.y)), .g (.int .i64 (o.f.r)), .lst 2 o.f.n (ptI o.f.P), .g (.int .i64 (o.f.d)), .g (.int .i64 (o.f.s)), .lst 6 o.f.m (ptI o.f.S), .g (.int .i64 (o.x)), .g (.int .i64 (o.y)), .g (.int .i64 (o.r)), .g (.int .i64 (o.d)), .g (.int .i64 (o.s))]] (.tup [.one (.lst 9 (doR l o).length (lstF (doR l o))), .one (.g (.int .i64 ((doL l o).1)))]) := by
  have hd1 : (o.kd = 1) = False := by simp [hk]
  have hd2 : (o.kd = 2) = False := by simp [hk]
  have hpl : posF l o.id < l.length := (posF_s hq).1
  refine CallsP_of Tryz.func91 rfl (by rw [Tryz.ntmps91]; simp) ?_
  simp only [Tryz.ntmps91, zM, PT.tv, argEnv, Nat.zero_add, Nat.reduceAdd]
  repeat' (first
 | ((with_reducible show AW _ _ _ _); first
 | (with_reducible first | refine aS (fun K hK => ?_) | refine aI ?_ | refine aT ?_ | refine aC ?_)
 | (first
 | (with_reducible first | refine aP 0 [0,1] ?_ | refine aP 1 [0,3] ?_ | refine aP 2 [0,3,6] ?_ | refine aP 8 [0,3,6] ?_ | refine aP 10 [0,3,6] ?_)
 | ((with_reducible refine aR (c := Code.region 12 _ true) [0,3,6] ?_); (with_reducible refine aD ?_ ?_ ?_ ?_); (focus kernel_rfl); (focus kernel_rfl); (focus kernel_rfl))
 | (with_reducible first | refine aP 13 [0,3,7,8] ?_ | refine aP 14 [8] ?_)
 | ((with_reducible refine aR (c := Code.region 15 _ true) [0,3,7] ?_); (with_reducible refine aD ?_ ?_ ?_ ?_); (focus kernel_rfl); (focus kernel_rfl); (focus kernel_rfl))))
 | ((first | (with_reducible refine And.intro ?_ ?_) | (with_reducible refine Need.mk ?_)); focus (first | exact True.intro | omega))
 | (with_reducible refine retK_n ?_)
 | ((with_reducible show condN _ _ _ _ _ _); first
 | ((with_reducible refine condN_t ?_ ?_) <;> (intro hc; (try simp only [zB, zC, reduceCtorEq] at hc); (try (exfalso; first | contradiction | omega)))))
 | ((with_reducible refine And.intro ?_ ?_); focus ((with_reducible show chkR _ _ _ = true); kernel_rfl))
 | ((with_reducible show callN _ _ _ _ _ _ _ _ _ _); (refine callN_q (k := 130) fnok_130 (rindex_s l hl _ g hq) ?_ ?_))
 | ((with_reducible show callDN _ _ _ _ _ _ _ _ _ _ _ _ _); first
 | (refine callDN_q (k := 133) fnok_133 (rchg_3 g o (hf g (idx_some hq).1) ho hk) ?_ ?_)
 | (refine callDN_q (k := 132) fnok_132 (rwit_p l hl _) ?_ ?_)
 | (refine callDN_q (k := 131) fnok_131 (rput_p (cutL l o.id) (Nat.le_trans (cut_len l o.id) hl) (chgX g o)) ?_ ?_))
 | ((fail_if_success (with_reducible show AW _ _ _ _)); simp (maxSteps := 2000000) only [go_sem, reduceIte, reduceCtorEq, xA, xL, xD, xE, xM, xS, xB, Tryz.f91, lstF, hd1, hd2, hp.2, Int.reduceEq])
 | ((with_reducible refine hK _ ?_); clear hK K))
  all_goals (first | (have e := rdo_6 (by omega) hq (by omega); rw [e.1, e.2]; (repeat' (first | exact rfl | (with_reducible refine And.intro ?_ ?_) | (intro i q hi hq; exact IV.eqv_refl _))); done) | (have e := rdo_7 (by omega) hq (by omega); rw [e.1, e.2]; (repeat' (first | exact rfl | (with_reducible refine And.intro ?_ ?_))); done))
theorem rdo_p4 (l : List Feat) (o : OpS) (hl : l.length ≤ 1000000) (hf : ∀ f, f ∈ l → f.Ok) (ho : o.f.Ok) (hk : o.kd = 4) (g : Feat) (hq : idx l o.id = some g) (hp : posF l o.id < l.length ∧ l.getD (posF l o.id) feat0 = g) : CallsP Tryz.prog 91 [.one (.lst 9 (l).length (lstF (l))), .agg [.g (.int .i64 (o.kd)), .g (.int .i64 (o.id)), .g (.int .i64 (o.f.id)), .g (.int .i64 (o.f.kd)), .g (.int .i64 (o.f.x)), .g (.int .i64 (o.f.y)), .g (.int .i64 (o.f.r)), .lst 2 o.f.n (ptI o.f.P), .g (.int .i64 (o.f.d)), .g (.int .i64 (o.f.s)), .lst 6 o.f.m (ptI o.f.S), .g (.int .i64 (o.x)), .g (.int .i64 (o.y)), .g (.int .i64 (o.r)), .g (.int .i64 (o.d)), .g (.int .i64 (o.s))]] (.tup [.one (.lst 9 (doR l o).length (lstF (doR l o))), .one (.g (.int .i64 ((doL l o).1)))]) := by
  have hd1 : (o.kd = 1) = False := by simp [hk]
  have hd2 : (o.kd = 2) = False := by simp [hk]
  have hpl : posF l o.id < l.length := (posF_s hq).1
  refine CallsP_of Tryz.func91 rfl (by rw [Tryz.ntmps91]; simp) ?_
  simp only [Tryz.ntmps91, zM, PT.tv, argEnv, Nat.zero_add, Nat.reduceAdd]
  repeat' (first
 | ((with_reducible show AW _ _ _ _); first
 | (with_reducible first | refine aS (fun K hK => ?_) | refine aI ?_ | refine aT ?_ | refine aC ?_)
 | (first
 | (with_reducible first | refine aP 0 [0,1] ?_ | refine aP 1 [0,3] ?_ | refine aP 2 [0,3,6] ?_ | refine aP 8 [0,3,6] ?_ | refine aP 10 [0,3,6] ?_)
 | ((with_reducible refine aR (c := Code.region 12 _ true) [0,3,6] ?_); (with_reducible refine aD ?_ ?_ ?_ ?_); (focus kernel_rfl); (focus kernel_rfl); (focus kernel_rfl))
 | (with_reducible first | refine aP 13 [0,3,7,8] ?_ | refine aP 14 [8] ?_)
 | ((with_reducible refine aR (c := Code.region 15 _ true) [0,3,7] ?_); (with_reducible refine aD ?_ ?_ ?_ ?_); (focus kernel_rfl); (focus kernel_rfl); (focus kernel_rfl))))
 | ((first | (with_reducible refine And.intro ?_ ?_) | (with_reducible refine Need.mk ?_)); focus (first | exact True.intro | omega))
 | (with_reducible refine retK_n ?_)
 | ((with_reducible show condN _ _ _ _ _ _); first
 | ((with_reducible refine condN_t ?_ ?_) <;> (intro hc; (try simp only [zB, zC, reduceCtorEq] at hc); (try (exfalso; first | contradiction | omega)))))
 | ((with_reducible refine And.intro ?_ ?_); focus ((with_reducible show chkR _ _ _ = true); kernel_rfl))
 | ((with_reducible show callN _ _ _ _ _ _ _ _ _ _); (refine callN_q (k := 130) fnok_130 (rindex_s l hl _ g hq) ?_ ?_))
 | ((with_reducible show callDN _ _ _ _ _ _ _ _ _ _ _ _ _); first
 | (refine callDN_q (k := 133) fnok_133 (rchg_4 g o (hf g (idx_some hq).1) ho hk) ?_ ?_)
 | (refine callDN_q (k := 132) fnok_132 (rwit_p l hl _) ?_ ?_)
 | (refine callDN_q (k := 131) fnok_131 (rput_p (cutL l o.id) (Nat.le_trans (cut_len l o.id) hl) (chgX g o)) ?_ ?_))
 | ((fail_if_success (with_reducible show AW _ _ _ _)); simp (maxSteps := 2000000) only [go_sem, reduceIte, reduceCtorEq, xA, xL, xD, xE, xM, xS, xB, Tryz.f91, lstF, hd1, hd2, hp.2, Int.reduceEq])
 | ((with_reducible refine hK _ ?_); clear hK K))
  all_goals (first | (have e := rdo_6 (by omega) hq (by omega); rw [e.1, e.2]; (repeat' (first | exact rfl | (with_reducible refine And.intro ?_ ?_) | (intro i q hi hq; exact IV.eqv_refl _))); done) | (have e := rdo_7 (by omega) hq (by omega); rw [e.1, e.2]; (repeat' (first | exact rfl | (with_reducible refine And.intro ?_ ?_))); done))
theorem rdo_p5 (l : List Feat) (o : OpS) (hl : l.length ≤ 1000000) (hf : ∀ f, f ∈ l → f.Ok) (ho : o.f.Ok) (hk : o.kd = 5) (g : Feat) (hq : idx l o.id = some g) (hp : posF l o.id < l.length ∧ l.getD (posF l o.id) feat0 = g) : CallsP Tryz.prog 91 [.one (.lst 9 (l).length (lstF (l))), .agg [.g (.int .i64 (o.kd)), .g (.int .i64 (o.id)), .g (.int .i64 (o.f.id)), .g (.int .i64 (o.f.kd)), .g (.int .i64 (o.f.x)), .g (.int .i64 (o.f.y)), .g (.int .i64 (o.f.r)), .lst 2 o.f.n (ptI o.f.P), .g (.int .i64 (o.f.d)), .g (.int .i64 (o.f.s)), .lst 6 o.f.m (ptI o.f.S), .g (.int .i64 (o.x)), .g (.int .i64 (o.y)), .g (.int .i64 (o.r)), .g (.int .i64 (o.d)), .g (.int .i64 (o.s))]] (.tup [.one (.lst 9 (doR l o).length (lstF (doR l o))), .one (.g (.int .i64 ((doL l o).1)))]) := by
  have hd1 : (o.kd = 1) = False := by simp [hk]
  have hd2 : (o.kd = 2) = False := by simp [hk]
  have hpl : posF l o.id < l.length := (posF_s hq).1
  refine CallsP_of Tryz.func91 rfl (by rw [Tryz.ntmps91]; simp) ?_
  simp only [Tryz.ntmps91, zM, PT.tv, argEnv, Nat.zero_add, Nat.reduceAdd]
  repeat' (first
 | ((with_reducible show AW _ _ _ _); first
 | (with_reducible first | refine aS (fun K hK => ?_) | refine aI ?_ | refine aT ?_ | refine aC ?_)
 | (first
 | (with_reducible first | refine aP 0 [0,1] ?_ | refine aP 1 [0,3] ?_ | refine aP 2 [0,3,6] ?_ | refine aP 8 [0,3,6] ?_ | refine aP 10 [0,3,6] ?_)
 | ((with_reducible refine aR (c := Code.region 12 _ true) [0,3,6] ?_); (with_reducible refine aD ?_ ?_ ?_ ?_); (focus kernel_rfl); (focus kernel_rfl); (focus kernel_rfl))
 | (with_reducible first | refine aP 13 [0,3,7,8] ?_ | refine aP 14 [8] ?_)
 | ((with_reducible refine aR (c := Code.region 15 _ true) [0,3,7] ?_); (with_reducible refine aD ?_ ?_ ?_ ?_); (focus kernel_rfl); (focus kernel_rfl); (focus kernel_rfl))))
 | ((first | (with_reducible refine And.intro ?_ ?_) | (with_reducible refine Need.mk ?_)); focus (first | exact True.intro | omega))
 | (with_reducible refine retK_n ?_)
 | ((with_reducible show condN _ _ _ _ _ _); first
 | ((with_reducible refine condN_t ?_ ?_) <;> (intro hc; (try simp only [zB, zC, reduceCtorEq] at hc); (try (exfalso; first | contradiction | omega)))))
 | ((with_reducible refine And.intro ?_ ?_); focus ((with_reducible show chkR _ _ _ = true); kernel_rfl))
 | ((with_reducible show callN _ _ _ _ _ _ _ _ _ _); (refine callN_q (k := 130) fnok_130 (rindex_s l hl _ g hq) ?_ ?_))
 | ((with_reducible show callDN _ _ _ _ _ _ _ _ _ _ _ _ _); first
 | (refine callDN_q (k := 133) fnok_133 (rchg_5 g o (hf g (idx_some hq).1) ho hk) ?_ ?_)
 | (refine callDN_q (k := 132) fnok_132 (rwit_p l hl _) ?_ ?_)
 | (refine callDN_q (k := 131) fnok_131 (rput_p (cutL l o.id) (Nat.le_trans (cut_len l o.id) hl) (chgX g o)) ?_ ?_))
 | ((fail_if_success (with_reducible show AW _ _ _ _)); simp (maxSteps := 2000000) only [go_sem, reduceIte, reduceCtorEq, xA, xL, xD, xE, xM, xS, xB, Tryz.f91, lstF, hd1, hd2, hp.2, Int.reduceEq])
 | ((with_reducible refine hK _ ?_); clear hK K))
  all_goals (first | (have e := rdo_6 (by omega) hq (by omega); rw [e.1, e.2]; (repeat' (first | exact rfl | (with_reducible refine And.intro ?_ ?_) | (intro i q hi hq; exact IV.eqv_refl _))); done) | (have e := rdo_7 (by omega) hq (by omega); rw [e.1, e.2]; (repeat' (first | exact rfl | (with_reducible refine And.intro ?_ ?_))); done))
theorem rdo_p (l : List Feat) (o : OpS) (hl : l.length ≤ 1000000) (hf : ∀ f, f ∈ l → f.Ok) (ho : o.f.Ok) (hB : opB o = true) : CallsP Tryz.prog 91 [.one (.lst 9 (l).length (lstF (l))), .agg [.g (.int .i64 (o.kd)), .g (.int .i64 (o.id)), .g (.int .i64 (o.f.id)), .g (.int .i64 (o.f.kd)), .g (.int .i64 (o.f.x)), .g (.int .i64 (o.f.y)), .g (.int .i64 (o.f.r)), .lst 2 o.f.n (ptI o.f.P), .g (.int .i64 (o.f.d)), .g (.int .i64 (o.f.s)), .lst 6 o.f.m (ptI o.f.S), .g (.int .i64 (o.x)), .g (.int .i64 (o.y)), .g (.int .i64 (o.r)), .g (.int .i64 (o.d)), .g (.int .i64 (o.s))]] (.tup [.one (.lst 9 (doR l o).length (lstF (doR l o))), .one (.g (.int .i64 ((doL l o).1)))]) := by
  cases hq : idx l o.id with
  | none =>
    by_cases hk : o.kd = 1
    · exact rdo_p1n l o hl hf ho hk hq
    · exact rdo_pn l o hl hf ho hk hq
  | some g =>
    rcases op_kd hB with hk | hk | hk | hk | hk
    · exact rdo_p1s l o hl hf ho hk g hq
    · exact rdo_p2 l o hl hf ho hk g hq
    · exact rdo_p3 l o hl hf ho hk g hq (posF_s hq)
    · exact rdo_p4 l o hl hf ho hk g hq (posF_s hq)
    · exact rdo_p5 l o hl hf ho hk g hq (posF_s hq)
end Go.Proofs.YtdhgiklbkmkblaaGreat
set_option maxRecDepth 100000
set_option maxHeartbeats 4000000
namespace Go.Proofs.YtdhgiklbkmkblaaGreat
open Go.RowKit Go.Sea
open Nat renaming reduceAdd → xA, reduceLT → xL, reduceLeDiff → xD, reduceEqDiff → xE, reduceMul → xM, reduceSub → xS, reduceBEq → xB
theorem of_23_0 : offOf Tryz.prog 23 0 = some 0 := by kernel_rfl
theorem of_23_1 : offOf Tryz.prog 23 1 = some 1 := by kernel_rfl
theorem of_23_3 : offOf Tryz.prog 23 3 = some 3 := by kernel_rfl
theorem of_23_4 : offOf Tryz.prog 23 4 = some 4 := by kernel_rfl
attribute [go_sem] of_23_0 of_23_1 of_23_3 of_23_4
theorem mul_sq {x y : Int} (hx : -2000000 ≤ x ∧ x ≤ 2000000) (hy : -2000000 ≤ y ∧ y ≤ 2000000) : -4000000000000 ≤ x * y ∧ x * y ≤ 4000000000000 := by
  have h1 : 0 ≤ (2000000 - x) * (2000000 + y) := Int.mul_nonneg (by omega) (by omega)
  have h2 : 0 ≤ (2000000 + x) * (2000000 - y) := Int.mul_nonneg (by omega) (by omega)
  have h3 : 0 ≤ (2000000 - x) * (2000000 - y) := Int.mul_nonneg (by omega) (by omega)
  have h4 : 0 ≤ (2000000 + x) * (2000000 + y) := Int.mul_nonneg (by omega) (by omega)
  simp only [Int.sub_mul, Int.mul_sub, Int.add_mul, Int.mul_add] at h1 h2 h3 h4
  generalize x * y = z at *
  omega
def eqLI (n m : Nat) (s t : Nat → Int) : Bool := decide (n = m ∧ ∀ i, i < n → s i = t i)
def eqFI (n m : Nat) (f g : Nat → Feat) : Bool := decide (n = m ∧ ∀ i, i < n → feqB (f i) (g i) = true)
theorem done_t {q : Nat} {a : Nat → Int} {i : Nat} (hi : (q : Int) ≤ i) (g : ∀ i', i' < i → aftO a 10001 i') : decide ((q : Int) ≤ 200) = doneB q a := by
  unfold doneB; exact decide_eq_decide.2 ⟨fun h => ⟨by omega, fun k hk => g k (by omega)⟩, fun h => by omega⟩
theorem done_f {q : Nat} {a : Nat → Int} {i : Nat} (hi : (i : Int) < q) (h : ¬ aftO a 10001 i) : doneB q a = false := decide_eq_false fun g => h (g.2 i (by omega))
theorem rdone_n {q : Nat} {a : Nat → Int} (h : (q : Int) > 200) : false = doneB q a := (decide_eq_false fun g => by omega).symm
theorem rdone_f {q : Nat} {a : Nat → Int} {i : Nat} (hi : (i : Int) < q) (h : (a i < 1 ∨ a i > 10000) ∨ (i : Int) > 0 ∧ a i ≤ a (i - 1)) : false = doneB q a := (done_f hi fun g => by have := g.1; have := g.2.1; have := g.2.2; omega).symm
theorem rdone_t {q : Nat} {a : Nat → Int} {i : Nat} (h : (q : Int) ≤ 200) (hi : (q : Int) ≤ i) (g : ∀ i', i' < i → aftO a 10001 i') : true = doneB q a := (decide_eq_true ⟨by omega, fun k hk => g k (by omega)⟩).symm
theorem dat_m {m : DatS} (h : (-2000000 ≤ m.A ∧ m.A ≤ 2000000) ∧ (-2000000 ≤ m.B ∧ m.B ≤ 2000000) ∧ (-2000000 ≤ m.D ∧ m.D ≤ 2000000) ∧ (-2000000 ≤ m.E ∧ m.E ≤ 2000000)) : (-4000000000000 ≤ m.A * m.E ∧ m.A * m.E ≤ 4000000000000) ∧ (-4000000000000 ≤ m.B * m.D ∧ m.B * m.D ≤ 4000000000000) := ⟨mul_sq h.1 h.2.2.2, mul_sq h.2.1 h.2.2.1⟩
def seqB (a b : ShtS) : Bool := decide (a.ch = b.ch ∧ a.sc = b.sc ∧ a.ed = b.ed ∧ (a.m.A = b.m.A ∧ a.m.B = b.m.B ∧ a.m.C = b.m.C ∧ a.m.D = b.m.D ∧ a.m.E = b.m.E ∧ a.m.F = b.m.F ∧ a.m.R = b.m.R) ∧ a.cap = b.cap) && (eqLI a.q b.q a.dn b.dn && eqFI a.n b.n a.f b.f)
theorem rflist_p (n : Nat) (f : Nat → Feat) (hn : n ≤ 9223372036854775807) (hf : ∀ i, i < n → (f i).Ok) : CallsP Tryz.prog 87 [.one (.lst 9 n (featF f))] (.t (.one (.g (.bool (feaB n f))))) := by
  refine CallsP_of Tryz.func87 rfl (by rw [Tryz.ntmps87]; simp) ?_
  simp only [Tryz.ntmps87, zM, PT.tv, argEnv, Nat.zero_add, Nat.reduceAdd]
  repeat' (first
 | ((with_reducible show AW _ _ _ _); first
 | (with_reducible first | refine aS (fun K hK => ?_) | refine aI ?_ | refine aX ?_ | refine aT ?_ | refine aC ?_ | refine aB ?_)
 | (first
 | (with_reducible first | refine aP 0 [0] ?_ | refine aP 1 [0] ?_ | refine aP 2 [] ?_ | refine aP 3 [0] ?_ | refine aP 4 [0,3] ?_ | refine aP 5 [0,3] ?_)
 | ((with_reducible refine aR (c := Code.region 6 _ true) [0,3] ?_); (with_reducible refine aD ?_ ?_ ?_ ?_); (focus kernel_rfl); (focus kernel_rfl); (focus kernel_rfl))
 | (with_reducible first | refine aP 7 [] ?_ | refine aP 8 [] ?_))
 | ((with_reducible show AW _ (Code.loop _) _ _); first
 | ((with_reducible refine aL (c := (Code.seq (Code.seq (Code.region 4 _ _) _) _)) (ι := Nat) [0] (fun i => [(3, iA .i64 (i : Int))]) (fun i => []) (fun i => i ≤ n ∧ (∀ i', i' < i → feaO f i')) (fun i => n - i) 0 ?lg4 ?l14 ?l24 ?li4 ?lr4); (case' lg4 => rintro i _); (case' li4 => try (exact ⟨Nat.zero_le _, fun i hi => absurd hi (Nat.not_lt_zero _)⟩)); (case' lr4 => rintro i ⟨hi, hai⟩ KR hR4; simp only [keepE, hupd, hset, lk, if_true, if_false, xE, reduceIte, zN]))))
 | ((first | (with_reducible refine And.intro ?_ ?_) | (with_reducible refine Need.mk ?_)); focus (first | exact True.intro | omega | (intros; (repeat' (first | omega | (with_reducible refine And.intro ?_ ?_))); done) | (simp; done) | (simp +contextual; done) | (intro hq; have hq2 := hq; simp only [Bool.and_eq_true, Bool.or_eq_true, Bool.not_eq_true', Bool.not_not, Bool.not_eq_false', decide_eq_true_eq, decide_eq_false_iff_not] at hq2; (repeat' (first | exact hq | (with_reducible refine And.intro ?_ ?_) | omega)); done)))
 | (with_reducible refine retK_n ?_)
 | ((with_reducible show condN _ _ _ _ _ _); first
 | ((with_reducible refine condN_t ?_ ?_) <;> (intro hc; (try simp only [zB, zC, reduceCtorEq] at hc); (try (exfalso; contradiction)))))
 | ((with_reducible refine And.intro ?_ ?_); focus ((with_reducible show chkR _ _ _ = true); kernel_rfl))
 | ((with_reducible show callDN _ _ _ _ _ _ _ _ _ _ _ _ _); first
 | (refine callDN_q (k := 128) fnok_128 (rFeat_p (f i) (hf i (by omega))) ?_ ?_))
 | ((with_reducible refine hR4 _ (i + 1) ?_); (try clear hR4 KR))
 | ((with_reducible refine Told.mk ?_); simp only [go_sem, reduceIte, reduceCtorEq, xA, xL, xD, xE, xM, xS, xB] <;> ((((try simp (disch := omega) only [seaWrap, Int.natCast_add, Int.cast_ofNat_Int, and_true, true_and, and_self]); (repeat' (first | omega | (with_reducible refine And.intro ?_ ?_) | ((exact all_succ (by assumption) ⟨hc.1, fun h0 => by have := hc.2; omega⟩)))); done))))
 | ((fail_if_success (with_reducible show AW _ _ _ _)); simp (maxSteps := 2000000) only [go_sem, reduceIte, reduceCtorEq, xA, xL, xD, xE, xM, xS, xB, Tryz.f87])
 | ((fail_if_success (with_reducible show AW _ _ _ _)); simp (disch := omega) only [seaWrap, seaDiv, seaMod])
 | ((with_reducible refine hK _ ?_); clear hK K)
 | (with_reducible apply_assumption -exfalso only [*]))
  all_goals first | exact rfea_n (by assumption) | exact rfea_f (by assumption) hc | exact rfea_t (by assumption) (by assumption) hai | skip
theorem rdone_p (q : Nat) (a : Nat → Int) (hq : q ≤ 9223372036854775807) : CallsP Tryz.prog 86 [.one (.lst 1 q (intI a))] (.t (.one (.g (.bool (doneB q a))))) := by
  refine CallsP_of Tryz.func86 rfl (by rw [Tryz.ntmps86]; simp) ?_
  simp only [Tryz.ntmps86, zM, PT.tv, argEnv, Nat.zero_add, Nat.reduceAdd]
  repeat' (first
 | ((with_reducible show AW _ _ _ _); first
 | (with_reducible first | refine aS (fun K hK => ?_) | refine aI ?_ | refine aX ?_ | refine aT ?_ | refine aC ?_ | refine aB ?_)
 | (first
 | (with_reducible first | refine aP 0 [0] ?_ | refine aP 1 [0] ?_ | refine aP 2 [] ?_ | refine aP 3 [0] ?_ | refine aP 4 [0,3] ?_ | refine aP 5 [0,3] ?_)
 | ((with_reducible refine aR (c := Code.region 6 _ true) [0,3] ?_); (with_reducible refine aD ?_ ?_ ?_ ?_); (focus kernel_rfl); (focus kernel_rfl); (focus kernel_rfl))
 | (with_reducible first | refine aP 7 [] ?_ | refine aP 8 [] ?_))
 | ((with_reducible show AW _ (Code.loop _) _ _); first
 | ((with_reducible refine aL (c := (Code.seq (Code.seq (Code.region 4 _ _) _) _)) (ι := Nat) [0] (fun i => [(3, iA .i64 (i : Int))]) (fun i => []) (fun i => i ≤ q ∧ (∀ i', i' < i → aftO a 10001 i')) (fun i => q - i) 0 ?lg4 ?l14 ?l24 ?li4 ?lr4); (case' lg4 => rintro i _); (case' li4 => try (exact ⟨Nat.zero_le _, fun i hi => absurd hi (Nat.not_lt_zero _)⟩)); (case' lr4 => rintro i ⟨hi, hai⟩ KR hR4; simp only [keepE, hupd, hset, lk, if_true, if_false, xE, reduceIte, zN]))))
 | (((with_reducible refine And.intro ?_ ?_)); focus (first | omega | (intros; (repeat' (first | omega | (with_reducible refine And.intro ?_ ?_))); done) | (simp; done) | (simp; omega)))
 | (with_reducible refine retK_n ?_)
 | ((with_reducible show condN _ _ _ _ _ _); first
 | ((with_reducible refine condN_t ?_ ?_) <;> (intro hc; (try simp only [zB, zC, reduceCtorEq] at hc); (try (exfalso; contradiction)))))
 | ((with_reducible refine And.intro ?_ ?_); focus ((with_reducible show chkR _ _ _ = true); kernel_rfl))
 | ((with_reducible refine hR4 _ (i + 1) ?_); (try clear hR4 KR))
 | ((with_reducible refine Told.mk ?_); simp only [go_sem, reduceIte, reduceCtorEq, xA, xL, xD, xE, xM, xS, xB, intI] <;> ((((try simp (disch := omega) only [seaWrap, Int.natCast_add, Int.cast_ofNat_Int, and_true, true_and, and_self]); (repeat' (first | omega | (with_reducible refine And.intro ?_ ?_) | ((exact all_succ (by assumption) ⟨by omega, by omega, fun h0 => by omega⟩)))); done))))
 | ((fail_if_success (with_reducible show AW _ _ _ _)); simp (maxSteps := 2000000) only [go_sem, reduceIte, reduceCtorEq, xA, xL, xD, xE, xM, xS, xB, Tryz.f86, intI])
 | ((fail_if_success (with_reducible show AW _ _ _ _)); simp (disch := omega) only [seaWrap, seaDiv, seaMod])
 | ((with_reducible refine hK _ ?_); clear hK K)
 | (with_reducible apply_assumption -exfalso only [*]))
  all_goals first | exact rdone_n (by assumption) | exact rdone_f (by assumption) hc | exact rdone_t (by assumption) (by assumption) hai | skip
theorem within_p (x y : Int) : CallsP Tryz.prog 69 [.one (.g (.int .i64 x)), .one (.g (.int .i64 y))] (.t (.one (.g (.bool (decide (1 ≤ x ∧ x ≤ y)))))) := by
  refine CallsP_of Tryz.func69 rfl (by rw [Tryz.ntmps69]; simp) ?_
  simp only [Tryz.ntmps69, zM, PT.tv, argEnv, Nat.zero_add, Nat.reduceAdd]
  repeat' (first
 | ((with_reducible show AW _ _ _ _); first
 | (with_reducible first | refine aS (fun K hK => ?_) | refine aT ?_)
 | (first
 | (with_reducible first | refine aP 0 [0,1] ?_ | refine aP 1 [0,1] ?_)))
 | (with_reducible refine retK_n ?_)
 | ((fail_if_success (with_reducible show AW _ _ _ _)); simp (maxSteps := 2000000) only [go_sem, reduceIte, reduceCtorEq, xA, xL, xD, xE, xM, xS, xB, Tryz.f69])
 | ((with_reducible refine hK _ ?_); clear hK K))
  all_goals ((try refine Bool.eq_iff_iff.2 ?_); (simp only [Bool.and_eq_true, Bool.or_eq_true, Bool.not_eq_true', decide_eq_true_eq, decide_eq_false_iff_not, bne_iff_ne, beq_iff_eq, ne_eq, ge_iff_le, gt_iff_lt, cond_eq_ite, iff_self, eq_self]; done))
theorem det_p (m : DatS) (hm : (-2000000 ≤ m.A ∧ m.A ≤ 2000000) ∧ (-2000000 ≤ m.B ∧ m.B ≤ 2000000) ∧ (-2000000 ≤ m.D ∧ m.D ≤ 2000000) ∧ (-2000000 ≤ m.E ∧ m.E ≤ 2000000)) : CallsP Tryz.prog 112 [.agg [.g (.int .i64 m.A), .g (.int .i64 m.B), .g (.int .i64 m.C), .g (.int .i64 m.D), .g (.int .i64 m.E), .g (.int .i64 m.F), .g (.int .i64 m.R)]] (.t (.one (.g (.int .i64 (m.A * m.E - m.B * m.D))))) := by
  have hX := dat_m hm
  refine CallsP_of Tryz.func112 rfl (by rw [Tryz.ntmps112]; simp) ?_
  simp only [Tryz.ntmps112, zM, PT.tv, argEnv, Nat.zero_add, Nat.reduceAdd]
  repeat' (first
 | ((with_reducible show AW _ _ _ _); first
 | (with_reducible first | refine aS (fun K hK => ?_) | refine aT ?_)
 | (first
 | (with_reducible first | refine aP 0 [0] ?_ | refine aP 1 [1] ?_)))
 | (with_reducible refine retK_n ?_)
 | ((fail_if_success (with_reducible show AW _ _ _ _)); simp (maxSteps := 2000000) only [go_sem, reduceIte, reduceCtorEq, xA, xL, xD, xE, xM, xS, xB, Tryz.f112])
 | ((fail_if_success (with_reducible show AW _ _ _ _)); simp (disch := omega) only [seaWrap, seaDiv, seaMod])
 | ((with_reducible refine hK _ ?_); clear hK K))
theorem rdet_p (m : DatS) (hm : (-2000000 ≤ m.A ∧ m.A ≤ 2000000) ∧ (-2000000 ≤ m.B ∧ m.B ≤ 2000000) ∧ (-2000000 ≤ m.D ∧ m.D ≤ 2000000) ∧ (-2000000 ≤ m.E ∧ m.E ≤ 2000000)) : CallsP Tryz.prog 127 [.agg [.g (.int .i64 m.A), .g (.int .i64 m.B), .g (.int .i64 m.C), .g (.int .i64 m.D), .g (.int .i64 m.E), .g (.int .i64 m.F), .g (.int .i64 m.R)]] (.t (.one (.g (.int .i64 (m.A * m.E - m.B * m.D))))) := by
  have hX := dat_m hm
  refine CallsP_of Tryz.func127 rfl (by rw [Tryz.ntmps127]; simp) ?_
  simp only [Tryz.ntmps127, zM, PT.tv, argEnv, Nat.zero_add, Nat.reduceAdd]
  repeat' (first
 | ((with_reducible show AW _ _ _ _); first
 | (with_reducible first | refine aS (fun K hK => ?_) | refine aT ?_)
 | (first
 | (with_reducible first | refine aP 0 [0] ?_ | refine aP 1 [1] ?_)))
 | (with_reducible refine retK_n ?_)
 | ((fail_if_success (with_reducible show AW _ _ _ _)); simp (maxSteps := 2000000) only [go_sem, reduceIte, reduceCtorEq, xA, xL, xD, xE, xM, xS, xB, Tryz.f127])
 | ((fail_if_success (with_reducible show AW _ _ _ _)); simp (disch := omega) only [seaWrap, seaDiv, seaMod])
 | ((with_reducible refine hK _ ?_); clear hK K))
theorem rfac_p (x : Int) : CallsP Tryz.prog 126 [.one (.g (.int .i64 x))] (.t (.one (.g (.bool (decide (-2000000 ≤ x ∧ x ≤ 2000000)))))) := by
  refine CallsP_of Tryz.func126 rfl (by rw [Tryz.ntmps126]; simp) ?_
  simp only [Tryz.ntmps126, zM, PT.tv, argEnv, Nat.zero_add, Nat.reduceAdd]
  repeat' (first
 | ((with_reducible show AW _ _ _ _); first
 | (with_reducible first | refine aS (fun K hK => ?_) | refine aT ?_)
 | (first
 | (with_reducible first | refine aP 0 [0] ?_ | refine aP 1 [0] ?_)))
 | (with_reducible refine retK_n ?_)
 | ((fail_if_success (with_reducible show AW _ _ _ _)); simp (maxSteps := 2000000) only [go_sem, reduceIte, reduceCtorEq, xA, xL, xD, xE, xM, xS, xB, Tryz.f126])
 | ((with_reducible refine hK _ ?_); clear hK K))
  all_goals ((try refine Bool.eq_iff_iff.2 ?_); (simp only [Bool.and_eq_true, Bool.or_eq_true, Bool.not_eq_true', decide_eq_true_eq, decide_eq_false_iff_not, bne_iff_ne, beq_iff_eq, ne_eq, ge_iff_le, gt_iff_lt, cond_eq_ite, iff_self, eq_self]; done))
end Go.Proofs.YtdhgiklbkmkblaaGreat
set_option maxRecDepth 100000
set_option maxHeartbeats 4000000
namespace Go.Proofs.YtdhgiklbkmkblaaGreat
open Go.RowKit Go.Sea
open Nat renaming reduceAdd → xA, reduceLT → xL, reduceLeDiff → xD, reduceEqDiff → xE, reduceMul → xM, reduceSub → xS, reduceBEq → xB
theorem fnok_112 : fnOk Tryz.prog 112 = true := by kernel_rfl
theorem fnok_126 : fnOk Tryz.prog 126 = true := by kernel_rfl
theorem fnok_127 : fnOk Tryz.prog 127 = true := by kernel_rfl
theorem fo_146 : fieldsOk Tryz.prog 146 = true := by kernel_rfl
theorem ix_146 : ixD Tryz.prog 146 = some (4, false, 1) := by kernel_rfl
theorem of_23_2 : offOf Tryz.prog 23 2 = some 2 := by kernel_rfl
theorem of_23_5 : offOf Tryz.prog 23 5 = some 5 := by kernel_rfl
theorem of_23_6 : offOf Tryz.prog 23 6 = some 6 := by kernel_rfl
theorem pl_146_0 : placeF Tryz.prog 146 0 = some (0, 1) := by kernel_rfl
theorem pl_146_1 : placeF Tryz.prog 146 1 = some (1, 1) := by kernel_rfl
theorem pl_146_2 : placeF Tryz.prog 146 2 = some (2, 1) := by kernel_rfl
theorem pl_146_3 : placeF Tryz.prog 146 3 = some (3, 1) := by kernel_rfl
theorem ty_23 : tyD Tryz.prog 23 = some (true, 7) := by kernel_rfl
theorem zc_146 : zeroC Tryz.prog 146 = some [.iv (.g (.int .i64 0)), .iv (.g (.int .i64 0)), .iv (.g (.int .i64 0)), .iv (.g (.int .i64 0))] := by kernel_rfl
attribute [go_sem] fnok_112 fnok_126 fnok_127 fo_146 ix_146 of_23_2 of_23_5 of_23_6 pl_146_0 pl_146_1 pl_146_2 pl_146_3 ty_23 zc_146
theorem eqLI_n {n m : Nat} {s t : Nat → Int} (h : (n : Int) ≠ m) : false = eqLI n m s t := (decide_eq_false fun g => by omega).symm
theorem eqLI_f {n m : Nat} {s t : Nat → Int} {i : Nat} (hi : (i : Int) < n) (h : s i ≠ t i) : false = eqLI n m s t := (decide_eq_false fun g => h (g.2 i (by omega))).symm
theorem eqLI_t {n m : Nat} {s t : Nat → Int} {i : Nat} (h : (n : Int) = m) (hi : (n : Int) ≤ i) (g : ∀ j, j < i → s j = t j) : true = eqLI n m s t := (decide_eq_true ⟨by omega, fun k hk => g k (by omega)⟩).symm
theorem eqFI_n {n m : Nat} {f g : Nat → Feat} (h : (n : Int) ≠ m) : false = eqFI n m f g := (decide_eq_false fun e => by omega).symm
theorem eqFI_f {n m : Nat} {f g : Nat → Feat} {i : Nat} (hi : (i : Int) < n) (h : feqB (f i) (g i) = false) : false = eqFI n m f g := (decide_eq_false fun e => by rw [e.2 i (by omega)] at h; cases h).symm
theorem eqFI_t {n m : Nat} {f g : Nat → Feat} {i : Nat} (h : (n : Int) = m) (hi : (n : Int) ≤ i) (ha : ∀ j, j < i → feqB (f j) (g j) = true) : true = eqFI n m f g := (decide_eq_true ⟨by omega, fun k hk => ha k (by omega)⟩).symm
def hasL (q : Nat) (a : Nat → Int) (x : Int) : Bool := decide (∃ i, i < q ∧ a i = x)
theorem hasL_f {q : Nat} {a : Nat → Int} {x : Int} {i : Nat} (hi : (q : Int) ≤ i) (g : ∀ j, j < i → a j ≠ x) : false = hasL q a x := (decide_eq_false fun ⟨j, h1, h2⟩ => g j (by omega) h2).symm
theorem hasL_t {q : Nat} {a : Nat → Int} {x : Int} {i : Nat} (hi : (i : Int) < q) (h : a i = x) : true = hasL q a x := (decide_eq_true ⟨i, by omega, h⟩).symm
theorem datB_f {m : DatS} (h : ¬ datO m) : false = datB m := (decide_eq_false h).symm
theorem dat_b {m : DatS} {b : Bool} (h : b = true ↔ datO m) : b = datB m := Bool.eq_iff_iff.2 (h.trans (decide_eq_true_iff (p := datO m)).symm)
def datV (m : DatS) (j : Nat) : Int := if j = 0 then m.A else if j = 1 then m.B else if j = 2 then m.D else m.E
def dat4 (m : DatS) (j : Nat) : Prop := -2000000 ≤ datV m j ∧ datV m j ≤ 2000000
theorem dat_all {m : DatS} {j : Nat} (h : ∀ j', j' < j → dat4 m j') (hj : 4 ≤ j) : (-2000000 ≤ m.A ∧ m.A ≤ 2000000) ∧ (-2000000 ≤ m.B ∧ m.B ≤ 2000000) ∧ (-2000000 ≤ m.D ∧ m.D ≤ 2000000) ∧ (-2000000 ≤ m.E ∧ m.E ≤ 2000000) := by
  have h0 := h 0 (by omega); have h1 := h 1 (by omega); have h2 := h 2 (by omega); have h3 := h 3 (by omega)
  simp only [dat4, datV, if_true, Nat.reduceEqDiff, if_false] at h0 h1 h2 h3
  exact ⟨by simpa using h0, by simpa using h1, by simpa using h2, by simpa using h3⟩
theorem dat_get {m : DatS} {j : Nat} (h : j < 4) : ([.iv (.g (.int .i64 m.A)), .iv (.g (.int .i64 m.B)), .iv (.g (.int .i64 m.D)), .iv (.g (.int .i64 m.E))] : List CV).getD j .any = .iv (.g (.int .i64 (datV m j))) := by
  rcases (by omega : j = 0 ∨ j = 1 ∨ j = 2 ∨ j = 3) with rfl | rfl | rfl | rfl <;> rfl
theorem dat4_n {m : DatS} {j : Nat} (h : j < 4) (hc : datV m j < -2000000 ∨ datV m j > 2000000) (g : (-2000000 ≤ m.A ∧ m.A ≤ 2000000) ∧ (-2000000 ≤ m.B ∧ m.B ≤ 2000000) ∧ (-2000000 ≤ m.D ∧ m.D ≤ 2000000) ∧ (-2000000 ≤ m.E ∧ m.E ≤ 2000000)) : False := by
  rcases (by omega : j = 0 ∨ j = 1 ∨ j = 2 ∨ j = 3) with rfl | rfl | rfl | rfl <;> simp [datV] at hc <;> omega
theorem dat_n {m : DatS} (h : ¬ ((-2000000 ≤ m.A ∧ m.A ≤ 2000000) ∧ (-2000000 ≤ m.B ∧ m.B ≤ 2000000) ∧ (-2000000 ≤ m.D ∧ m.D ≤ 2000000) ∧ (-2000000 ≤ m.E ∧ m.E ≤ 2000000))) : false = datB m := datB_f fun g => h g.1
theorem eqI_p (n m : Nat) (s t : Nat → Int) (hn : n ≤ 9223372036854775807) (hm : m ≤ 9223372036854775807) : CallsP Tryz.prog 72 [.one (.lst 1 n (intI s)), .one (.lst 1 m (intI t))] (.t (.one (.g (.bool (eqLI n m s t))))) := by
  refine CallsP_of Tryz.func72 rfl (by rw [Tryz.ntmps72]; simp) ?_
  simp only [Tryz.ntmps72, zM, PT.tv, argEnv, Nat.zero_add, Nat.reduceAdd]
  repeat' (first
 | ((with_reducible show AW _ _ _ _); first
 | (with_reducible first | refine aS (fun K hK => ?_) | refine aI ?_ | refine aX ?_ | refine aT ?_ | refine aC ?_ | refine aB ?_)
 | (first
 | (with_reducible first | refine aP 0 [0,1] ?_ | refine aP 1 [0,1] ?_ | refine aP 2 [] ?_ | refine aP 3 [0,1] ?_ | refine aP 4 [0,1,12,13] ?_ | refine aP 5 [0,1,12,13] ?_)
 | ((with_reducible refine aR (c := Code.region 6 _ true) [0,1,5,12,13] ?_); (with_reducible refine aD ?_ ?_ ?_ ?_); (focus kernel_rfl); (focus kernel_rfl); (focus kernel_rfl))
 | (with_reducible first | refine aP 7 [] ?_ | refine aP 8 [0,1,12,13] ?_ | refine aP 9 [] ?_))
 | ((with_reducible show AW _ (Code.loop _) _ _); first
 | ((with_reducible refine aL (c := (Code.seq (Code.region 4 _ _) _)) (ι := Nat) [0,1,12] (fun i => [(13, iA .i64 (i : Int))]) (fun i => []) (fun i => i ≤ n ∧ (∀ i', i' < i → s i' = t i')) (fun i => n - i) 0 ?lg4 ?l14 ?l24 ?li4 ?lr4); (case' lg4 => rintro i _); (case' li4 => try (exact ⟨Nat.zero_le _, fun i hi => absurd hi (Nat.not_lt_zero _)⟩)); (case' lr4 => rintro i ⟨hi, hai⟩ KR hR4; simp only [keepE, hupd, hset, lk, if_true, if_false, xE, reduceIte, zN]))))
 | (((with_reducible refine And.intro ?_ ?_)); focus (omega))
 | (with_reducible refine retK_n ?_)
 | ((with_reducible show condN _ _ _ _ _ _); first
 | ((with_reducible refine condN_t ?_ ?_) <;> (intro hc; (try simp only [zB, zC, reduceCtorEq] at hc); (try (exfalso; contradiction)))))
 | ((with_reducible refine And.intro ?_ ?_); focus ((with_reducible show chkR _ _ _ = true); kernel_rfl))
 | ((with_reducible refine hR4 _ (i + 1) ?_); (try clear hR4 KR))
 | ((with_reducible refine Told.mk ?_); simp only [go_sem, reduceIte, reduceCtorEq, xA, xL, xD, xE, xM, xS, xB, intI] <;> ((((try simp (disch := omega) only [seaWrap, Int.natCast_add, Int.cast_ofNat_Int, and_true, true_and, and_self]); (repeat' (first | omega | (with_reducible refine And.intro ?_ ?_) | (exact all_succ (by assumption) (by assumption)) )); done))))
 | ((fail_if_success (with_reducible show AW _ _ _ _)); simp (maxSteps := 2000000) only [go_sem, reduceIte, reduceCtorEq, xA, xL, xD, xE, xM, xS, xB, Tryz.f72, intI])
 | ((with_reducible refine hK _ ?_); clear hK K)
 | (with_reducible apply_assumption -exfalso only [*]))
  all_goals first | exact eqLI_n (by assumption) | exact eqLI_f (by assumption) hc | exact eqLI_t (by omega) (by assumption) hai | skip
theorem ints8_p (n m : Nat) (s t : Nat → Int) (hn : n ≤ 9223372036854775807) (hm : m ≤ 9223372036854775807) : CallsP Tryz.prog 48 [.one (.lst 1 n (intI s)), .one (.lst 1 m (intI t))] (.t (.one (.g (.bool (eqLI n m s t))))) := by
  refine CallsP_of Tryz.func48 rfl (by rw [Tryz.ntmps48]; simp) ?_
  simp only [Tryz.ntmps48, zM, PT.tv, argEnv, Nat.zero_add, Nat.reduceAdd]
  repeat' (first
 | ((with_reducible show AW _ _ _ _); first
 | (with_reducible first | refine aS (fun K hK => ?_) | refine aI ?_ | refine aX ?_ | refine aT ?_ | refine aC ?_ | refine aB ?_)
 | (first
 | (with_reducible first | refine aP 0 [0,1] ?_ | refine aP 1 [0,1] ?_ | refine aP 2 [] ?_ | refine aP 3 [0,1] ?_ | refine aP 4 [0,1,5] ?_ | refine aP 5 [0,1,5] ?_)
 | ((with_reducible refine aR (c := Code.region 6 _ true) [0,1,5] ?_); (with_reducible refine aD ?_ ?_ ?_ ?_); (focus kernel_rfl); (focus kernel_rfl); (focus kernel_rfl))
 | (with_reducible first | refine aP 7 [] ?_ | refine aP 8 [] ?_))
 | ((with_reducible show AW _ (Code.loop _) _ _); first
 | ((with_reducible refine aL (c := (Code.seq (Code.seq (Code.region 4 _ _) _) _)) (ι := Nat) [0,1] (fun i => [(5, iA .i64 (i : Int))]) (fun i => []) (fun i => i ≤ n ∧ (∀ i', i' < i → s i' = t i')) (fun i => n - i) 0 ?lg4 ?l14 ?l24 ?li4 ?lr4); (case' lg4 => rintro i _); (case' li4 => try (exact ⟨Nat.zero_le _, fun i hi => absurd hi (Nat.not_lt_zero _)⟩)); (case' lr4 => rintro i ⟨hi, hai⟩ KR hR4; simp only [keepE, hupd, hset, lk, if_true, if_false, xE, reduceIte, zN]))))
 | (((with_reducible refine And.intro ?_ ?_)); focus (omega))
 | (with_reducible refine retK_n ?_)
 | ((with_reducible show condN _ _ _ _ _ _); first
 | ((with_reducible refine condN_t ?_ ?_) <;> (intro hc; (try simp only [zB, zC, reduceCtorEq] at hc); (try (exfalso; contradiction)))))
 | ((with_reducible refine And.intro ?_ ?_); focus ((with_reducible show chkR _ _ _ = true); kernel_rfl))
 | ((with_reducible refine hR4 _ (i + 1) ?_); (try clear hR4 KR))
 | ((with_reducible refine Told.mk ?_); simp only [go_sem, reduceIte, reduceCtorEq, xA, xL, xD, xE, xM, xS, xB, intI] <;> ((((try simp (disch := omega) only [seaWrap, Int.natCast_add, Int.cast_ofNat_Int, and_true, true_and, and_self]); (repeat' (first | omega | (with_reducible refine And.intro ?_ ?_) | (exact all_succ (by assumption) (by assumption)) )); done))))
 | ((fail_if_success (with_reducible show AW _ _ _ _)); simp (maxSteps := 2000000) only [go_sem, reduceIte, reduceCtorEq, xA, xL, xD, xE, xM, xS, xB, Tryz.f48, intI])
 | ((with_reducible refine hK _ ?_); clear hK K)
 | (with_reducible apply_assumption -exfalso only [*]))
  all_goals first | exact eqLI_n (by assumption) | exact eqLI_f (by assumption) hc | exact eqLI_t (by omega) (by assumption) hai | skip
theorem ints18_p (n m : Nat) (s t : Nat → Int) (hn : n ≤ 9223372036854775807) (hm : m ≤ 9223372036854775807) : CallsP Tryz.prog 17 [.one (.lst 1 n (intI s)), .one (.lst 1 m (intI t))] (.t (.one (.g (.bool (eqLI n m s t))))) := by
  refine CallsP_of Tryz.func17 rfl (by rw [Tryz.ntmps17]; simp) ?_
  simp only [Tryz.ntmps17, zM, PT.tv, argEnv, Nat.zero_add, Nat.reduceAdd]
  repeat' (first
 | ((with_reducible show AW _ _ _ _); first
 | (with_reducible first | refine aS (fun K hK => ?_) | refine aI ?_ | refine aX ?_ | refine aT ?_ | refine aC ?_ | refine aB ?_)
 | (first
 | (with_reducible first | refine aP 0 [0,1] ?_ | refine aP 1 [0,1] ?_ | refine aP 2 [] ?_ | refine aP 3 [0,1] ?_ | refine aP 4 [0,1,5] ?_ | refine aP 5 [0,1,5] ?_)
 | ((with_reducible refine aR (c := Code.region 6 _ true) [0,1,5] ?_); (with_reducible refine aD ?_ ?_ ?_ ?_); (focus kernel_rfl); (focus kernel_rfl); (focus kernel_rfl))
 | (with_reducible first | refine aP 7 [] ?_ | refine aP 8 [] ?_))
 | ((with_reducible show AW _ (Code.loop _) _ _); first
 | ((with_reducible refine aL (c := (Code.seq (Code.seq (Code.region 4 _ _) _) _)) (ι := Nat) [0,1] (fun i => [(5, iA .i64 (i : Int))]) (fun i => []) (fun i => i ≤ n ∧ (∀ i', i' < i → s i' = t i')) (fun i => n - i) 0 ?lg4 ?l14 ?l24 ?li4 ?lr4); (case' lg4 => rintro i _); (case' li4 => try (exact ⟨Nat.zero_le _, fun i hi => absurd hi (Nat.not_lt_zero _)⟩)); (case' lr4 => rintro i ⟨hi, hai⟩ KR hR4; simp only [keepE, hupd, hset, lk, if_true, if_false, xE, reduceIte, zN]))))
 | (((with_reducible refine And.intro ?_ ?_)); focus (omega))
 | (with_reducible refine retK_n ?_)
 | ((with_reducible show condN _ _ _ _ _ _); first
 | ((with_reducible refine condN_t ?_ ?_) <;> (intro hc; (try simp only [zB, zC, reduceCtorEq] at hc); (try (exfalso; contradiction)))))
 | ((with_reducible refine And.intro ?_ ?_); focus ((with_reducible show chkR _ _ _ = true); kernel_rfl))
 | ((with_reducible refine hR4 _ (i + 1) ?_); (try clear hR4 KR))
 | ((with_reducible refine Told.mk ?_); simp only [go_sem, reduceIte, reduceCtorEq, xA, xL, xD, xE, xM, xS, xB, intI] <;> ((((try simp (disch := omega) only [seaWrap, Int.natCast_add, Int.cast_ofNat_Int, and_true, true_and, and_self]); (repeat' (first | omega | (with_reducible refine And.intro ?_ ?_) | (exact all_succ (by assumption) (by assumption)) )); done))))
 | ((fail_if_success (with_reducible show AW _ _ _ _)); simp (maxSteps := 2000000) only [go_sem, reduceIte, reduceCtorEq, xA, xL, xD, xE, xM, xS, xB, Tryz.f17, intI])
 | ((with_reducible refine hK _ ?_); clear hK K)
 | (with_reducible apply_assumption -exfalso only [*]))
  all_goals first | exact eqLI_n (by assumption) | exact eqLI_f (by assumption) hc | exact eqLI_t (by omega) (by assumption) hai | skip
theorem rhas_p (q : Nat) (a : Nat → Int) (x : Int) (hq : q ≤ 9223372036854775807) : CallsP Tryz.prog 33 [.one (.lst 1 q (intI a)), .one (.g (.int .i64 x))] (.t (.one (.g (.bool (hasL q a x))))) := by
  refine CallsP_of Tryz.func33 rfl (by rw [Tryz.ntmps33]; simp) ?_
  simp only [Tryz.ntmps33, zM, PT.tv, argEnv, Nat.zero_add, Nat.reduceAdd]
  repeat' (first
 | ((with_reducible show AW _ _ _ _); first
 | (with_reducible first | refine aS (fun K hK => ?_) | refine aI ?_ | refine aX ?_ | refine aT ?_ | refine aC ?_ | refine aB ?_)
 | (first
 | (with_reducible first | refine aP 0 [0,1] ?_ | refine aP 1 [0,1] ?_ | refine aP 2 [0,1,5] ?_ | refine aP 3 [0,1,5] ?_ | refine aP 4 [0,1,5] ?_ | refine aP 5 [] ?_ | refine aP 6 [] ?_))
 | ((with_reducible show AW _ (Code.loop _) _ _); first
 | ((with_reducible refine aL (c := (Code.seq (Code.seq (Code.region 2 _ _) _) _)) (ι := Nat) [0,1] (fun i => [(5, iA .i64 (i : Int))]) (fun i => []) (fun i => i ≤ q ∧ (∀ i', i' < i → a i' ≠ x)) (fun i => q - i) 0 ?lg2 ?l12 ?l22 ?li2 ?lr2); (case' lg2 => rintro i _); (case' li2 => try (exact ⟨Nat.zero_le _, fun i hi => absurd hi (Nat.not_lt_zero _)⟩)); (case' lr2 => rintro i ⟨hi, hai⟩ KR hR2; simp only [keepE, hupd, hset, lk, if_true, if_false, xE, reduceIte, zN]))))
 | (((with_reducible refine And.intro ?_ ?_)); focus (omega))
 | (with_reducible refine retK_n ?_)
 | ((with_reducible show condN _ _ _ _ _ _); first
 | ((with_reducible refine condN_t ?_ ?_) <;> (intro hc; (try simp only [zB, zC, reduceCtorEq] at hc); (try (exfalso; contradiction)))))
 | ((with_reducible refine hR2 _ (i + 1) ?_); (try clear hR2 KR))
 | ((with_reducible refine Told.mk ?_); simp only [go_sem, reduceIte, reduceCtorEq, xA, xL, xD, xE, xM, xS, xB, intI] <;> ((((try simp (disch := omega) only [seaWrap, Int.natCast_add, Int.cast_ofNat_Int, and_true, true_and, and_self]); (repeat' (first | omega | (with_reducible refine And.intro ?_ ?_) | (exact all_succ (by assumption) (by assumption)) )); done))))
 | ((fail_if_success (with_reducible show AW _ _ _ _)); simp (maxSteps := 2000000) only [go_sem, reduceIte, reduceCtorEq, xA, xL, xD, xE, xM, xS, xB, Tryz.f33, intI])
 | ((with_reducible refine hK _ ?_); clear hK K)
 | (with_reducible apply_assumption -exfalso only [*]))
  all_goals first | exact hasL_t (by assumption) hc | exact hasL_f (by assumption) hai | skip
theorem samel_p (n m : Nat) (f g : Nat → Feat) (hn : n ≤ 9223372036854775807) (hm : m ≤ 9223372036854775807) (hf : ∀ i, i < n → (f i).Ok) (hg : ∀ i, i < m → (g i).Ok) : CallsP Tryz.prog 49 [.one (.lst 9 n (featF f)), .one (.lst 9 m (featF g))] (.t (.one (.g (.bool (eqFI n m f g))))) := by
  refine CallsP_of Tryz.func49 rfl (by rw [Tryz.ntmps49]; simp) ?_
  simp only [Tryz.ntmps49, zM, PT.tv, argEnv, Nat.zero_add, Nat.reduceAdd]
  repeat' (first
 | ((with_reducible show AW _ _ _ _); first
 | (with_reducible first | refine aS (fun K hK => ?_) | refine aI ?_ | refine aX ?_ | refine aT ?_ | refine aC ?_ | refine aB ?_)
 | (first
 | (with_reducible first | refine aP 0 [0,1] ?_ | refine aP 1 [0,1] ?_ | refine aP 2 [] ?_ | refine aP 3 [0,1] ?_ | refine aP 4 [0,1,5] ?_ | refine aP 5 [0,1,5] ?_)
 | ((with_reducible refine aR (c := Code.region 6 _ true) [0,1,5] ?_); (with_reducible refine aD ?_ ?_ ?_ ?_); (focus kernel_rfl); (focus kernel_rfl); (focus kernel_rfl))
 | (with_reducible first | refine aP 7 [] ?_ | refine aP 8 [] ?_))
 | ((with_reducible show AW _ (Code.loop _) _ _); first
 | ((with_reducible refine aL (c := (Code.seq (Code.seq (Code.region 4 _ _) _) _)) (ι := Nat) [0,1] (fun i => [(5, iA .i64 (i : Int))]) (fun i => []) (fun i => i ≤ n ∧ (∀ i', i' < i → feqB (f i') (g i') = true)) (fun i => n - i) 0 ?lg4 ?l14 ?l24 ?li4 ?lr4); (case' lg4 => rintro i _); (case' li4 => try (exact ⟨Nat.zero_le _, fun i hi => absurd hi (Nat.not_lt_zero _)⟩)); (case' lr4 => rintro i ⟨hi, hai⟩ KR hR4; simp only [keepE, hupd, hset, lk, if_true, if_false, xE, reduceIte, zN]))))
 | ((first | (with_reducible refine And.intro ?_ ?_) | (with_reducible refine Need.mk ?_)); focus (first | exact True.intro | omega))
 | (with_reducible refine retK_n ?_)
 | ((with_reducible show condN _ _ _ _ _ _); first
 | ((with_reducible refine condN_t ?_ ?_) <;> (intro hc; (try simp only [zB, zC, reduceCtorEq] at hc); (try (exfalso; contradiction)))))
 | ((with_reducible refine And.intro ?_ ?_); focus ((with_reducible show chkR _ _ _ = true); kernel_rfl))
 | ((with_reducible show callDN _ _ _ _ _ _ _ _ _ _ _ _ _); first
 | (refine callDN_q (k := 92) fnok_92 (rfsame_p (f i) (g i) (hf i (by omega)) (hg i (by omega))) ?_ ?_))
 | ((with_reducible refine hR4 _ (i + 1) ?_); (try clear hR4 KR))
 | ((with_reducible refine Told.mk ?_); simp only [go_sem, reduceIte, reduceCtorEq, xA, xL, xD, xE, xM, xS, xB] <;> ((((try simp (disch := omega) only [seaWrap, Int.natCast_add, Int.cast_ofNat_Int, and_true, true_and, and_self]); (repeat' (first | omega | (with_reducible refine And.intro ?_ ?_) | (exact all_succ (by assumption) (by assumption)) )); done))))
 | ((fail_if_success (with_reducible show AW _ _ _ _)); simp (maxSteps := 2000000) only [go_sem, reduceIte, reduceCtorEq, xA, xL, xD, xE, xM, xS, xB, Tryz.f49])
 | ((with_reducible refine hK _ ?_); clear hK K)
 | (with_reducible apply_assumption -exfalso only [*]))
  all_goals first | exact eqFI_n (by assumption) | exact eqFI_f (by assumption) hc | exact eqFI_t (by omega) (by assumption) hai | skip
theorem eqf_p (n m : Nat) (f g : Nat → Feat) (hn : n ≤ 9223372036854775807) (hm : m ≤ 9223372036854775807) (hf : ∀ i, i < n → (f i).Ok) (hg : ∀ i, i < m → (g i).Ok) : CallsP Tryz.prog 73 [.one (.lst 9 n (featF f)), .one (.lst 9 m (featF g)), .one (.g (.func (.func 74) #[] #[]))] (.t (.one (.g (.bool (eqFI n m f g))))) := by
  refine CallsP_of Tryz.func73 rfl (by rw [Tryz.ntmps73]; simp) ?_
  simp only [Tryz.ntmps73, zM, PT.tv, argEnv, Nat.zero_add, Nat.reduceAdd]
  repeat' (first
 | ((with_reducible show AW _ _ _ _); first
 | (with_reducible first | refine aS (fun K hK => ?_) | refine aI ?_ | refine aX ?_ | refine aT ?_ | refine aC ?_ | refine aB ?_)
 | (first
 | (with_reducible first | refine aP 0 [0,1,2] ?_ | refine aP 1 [0,1,2] ?_ | refine aP 2 [] ?_ | refine aP 3 [0,1,2] ?_ | refine aP 4 [1,2,15,16,17] ?_ | refine aP 5 [1,2,15,16,17] ?_ | refine aP 6 [1,2,7,8,15,16,17] ?_ | refine aP 7 [1,2,8,9,15,16,17] ?_ | refine aP 8 [] ?_ | refine aP 9 [1,2,15,16,17] ?_ | refine aP 10 [] ?_))
 | ((with_reducible show AW _ (Code.loop _) _ _); first
 | ((with_reducible refine aL (c := (Code.seq (Code.region 4 _ _) _)) (ι := Nat) [1,2,15,16] (fun i => [(17, iA .i64 (i : Int))]) (fun i => []) (fun i => i ≤ n ∧ (∀ i', i' < i → feqB (f i') (g i') = true)) (fun i => n - i) 0 ?lg4 ?l14 ?l24 ?li4 ?lr4); (case' lg4 => rintro i _); (case' li4 => try (exact ⟨Nat.zero_le _, fun i hi => absurd hi (Nat.not_lt_zero _)⟩)); (case' lr4 => rintro i ⟨hi, hai⟩ KR hR4; simp only [keepE, hupd, hset, lk, if_true, if_false, xE, reduceIte, zN]))))
 | ((first | (with_reducible refine And.intro ?_ ?_) | (with_reducible refine Need.mk ?_)); focus (first | exact True.intro | omega))
 | (with_reducible refine retK_n ?_)
 | ((with_reducible show condN _ _ _ _ _ _); first
 | ((with_reducible refine condN_t ?_ ?_) <;> (intro hc; (try simp only [zB, zC, reduceCtorEq] at hc); (try (exfalso; contradiction)))))
 | ((with_reducible show callN _ _ _ _ _ _ _ _ _ _); first
 | (refine callN_q (k := 74) fnok_74 (fsame_p (f i) (g i) (hf i (by omega)) (hg i (by omega))) ?_ ?_))
 | ((with_reducible refine hR4 _ (i + 1) ?_); (try clear hR4 KR))
 | ((with_reducible refine Told.mk ?_); simp only [go_sem, reduceIte, reduceCtorEq, xA, xL, xD, xE, xM, xS, xB] <;> ((((try simp (disch := omega) only [seaWrap, Int.natCast_add, Int.cast_ofNat_Int, and_true, true_and, and_self]); (repeat' (first | omega | (with_reducible refine And.intro ?_ ?_) | (exact all_succ (by assumption) (by assumption)) )); done))))
 | ((fail_if_success (with_reducible show AW _ _ _ _)); simp (maxSteps := 2000000) only [go_sem, reduceIte, reduceCtorEq, xA, xL, xD, xE, xM, xS, xB, Tryz.f73])
 | ((with_reducible refine hK _ ?_); clear hK K)
 | (with_reducible apply_assumption -exfalso only [*]))
  all_goals first | exact eqFI_n (by assumption) | exact eqFI_f (by assumption) hc | exact eqFI_t (by omega) (by assumption) hai | skip
theorem rdat_p (m : DatS) : CallsP Tryz.prog 85 [.agg [.g (.int .i64 m.A), .g (.int .i64 m.B), .g (.int .i64 m.C), .g (.int .i64 m.D), .g (.int .i64 m.E), .g (.int .i64 m.F), .g (.int .i64 m.R)]] (.t (.one (.g (.bool (datB m))))) := by
  refine CallsP_of Tryz.func85 rfl (by rw [Tryz.ntmps85]; simp) ?_
  simp only [Tryz.ntmps85, zM, PT.tv, argEnv, Nat.zero_add, Nat.reduceAdd]
  repeat' (first
 | ((with_reducible show AW _ _ _ _); first
 | (with_reducible first | refine aS (fun K hK => ?_) | refine aI ?_ | refine aT ?_ | refine aC ?_)
 | (first
 | (with_reducible first | refine aP 0 [0] ?_ | refine aP 1 [1] ?_ | refine aP 2 [] ?_ | refine aP 3 [1] ?_)))
 | ((first | (with_reducible refine And.intro ?_ ?_) | (with_reducible refine Need.mk ?_)); focus (first | exact True.intro | (intro _; (with_reducible assumption)) | (simp; done)))
 | (with_reducible refine retK_n ?_)
 | ((with_reducible show condN _ _ _ _ _ _); first
 | ((with_reducible refine condN_t ?_ ?_) <;> (intro hc; (try simp only [zB, zC, reduceCtorEq] at hc); (try (exfalso; contradiction)))))
 | ((with_reducible show callN _ _ _ _ _ _ _ _ _ _); first
 | (refine callN_q (k := 126) fnok_126 (rfac_p _) ?_ ?_))
 | ((with_reducible show callGN _ _ _ _ _ _ _ _ _ _); first
 | (refine callGN_q (k := 126) fnok_126 (fun hg => rfac_p _) ?_ ?_)
 | (refine callGN_q (k := 127) fnok_127 (fun hg => rdet_p m (by simp only [Bool.not_eq_true', Bool.or_eq_false_iff, Bool.not_eq_false', decide_eq_true_eq] at hg; omega)) ?_ ?_))
 | ((fail_if_success (with_reducible show AW _ _ _ _)); simp (maxSteps := 2000000) only [go_sem, reduceIte, reduceCtorEq, xA, xL, xD, xE, xM, xS, xB, Tryz.f85])
 | ((with_reducible refine hK _ ?_); clear hK K))
  all_goals (first | (refine dat_b ?_; simp only [Bool.and_eq_true, decide_eq_true_eq]; unfold datO; exact ⟨fun h => by omega, fun h => by omega⟩) | (exact datB_f fun g => by have g1 := g.1; have g2 := g.2; omega))
theorem dat_p (m : DatS) : CallsP Tryz.prog 70 [.agg [.g (.int .i64 m.A), .g (.int .i64 m.B), .g (.int .i64 m.C), .g (.int .i64 m.D), .g (.int .i64 m.E), .g (.int .i64 m.F), .g (.int .i64 m.R)]] (.t (.one (.g (.bool (datB m))))) := by
  have hdg : True := trivial
  refine CallsP_of Tryz.func70 rfl (by rw [Tryz.ntmps70]; simp) ?_
  simp only [Tryz.ntmps70, zM, PT.tv, argEnv, Nat.zero_add, Nat.reduceAdd]
  repeat' (first
 | ((with_reducible show AW _ _ _ _); first
 | (with_reducible first | refine aS (fun K hK => ?_) | refine aI ?_ | refine aX ?_ | refine aT ?_ | refine aC ?_ | refine aB ?_)
 | (first
 | (with_reducible first | refine aP 0 [0] ?_ | refine aP 1 [1] ?_ | refine aP 2 [1,13,14] ?_ | refine aP 3 [1,13,14] ?_ | refine aP 4 [1,4,13,14] ?_ | refine aP 5 [] ?_ | refine aP 6 [1,13,14] ?_ | refine aP 7 [1] ?_))
 | ((with_reducible show AW _ (Code.loop _) _ _); first
 | ((with_reducible refine aL (c := (Code.seq (Code.region 2 _ _) _)) (ι := Nat) [1,13] (fun j => [(14, iA .i64 (j : Int))]) (fun j => []) (fun j => j ≤ 4 ∧ (∀ j', j' < j → dat4 m j')) (fun j => 4 - j) 0 ?lg2 ?l12 ?l22 ?li2 ?lr2); (case' lg2 => rintro j _); (case' li2 => try (exact ⟨Nat.zero_le _, fun i hi => absurd hi (Nat.not_lt_zero _)⟩)); (case' lr2 => rintro j ⟨hj, haj⟩ KR hR2; simp only [keepE, hupd, hset, lk, if_true, if_false, xE, reduceIte, zN, hdg]))))
 | ((first | (with_reducible refine And.intro ?_ ?_) | (with_reducible refine Need.mk ?_)); focus (first | exact True.intro | omega | (simp; done)))
 | (with_reducible refine retK_n ?_)
 | ((with_reducible show condN _ _ _ _ _ _); first
 | ((with_reducible refine condN_t ?_ ?_) <;> (intro hc; (try simp only [zB, zC, reduceCtorEq] at hc); ((try (clear hdg; have hdg := dat_get (m := m) (j := j) (by omega)))); (try (exfalso; contradiction)))))
 | ((with_reducible show callN _ _ _ _ _ _ _ _ _ _); first
 | (refine callN_q (k := 112) fnok_112 (det_p m (dat_all haj (by omega))) ?_ ?_))
 | ((with_reducible refine hR2 _ (j + 1) ?_); (try clear hR2 KR))
 | ((with_reducible refine Told.mk ?_); simp only [go_sem, reduceIte, reduceCtorEq, xA, xL, xD, xE, xM, xS, xB, hdg] <;> ((((try simp (disch := omega) only [seaWrap, Int.natCast_add, Int.cast_ofNat_Int, and_true, true_and, and_self]); (repeat' (first | omega | (with_reducible refine And.intro ?_ ?_) | (exact all_succ (by assumption) (by assumption)) )); done))))
 | ((fail_if_success (with_reducible show AW _ _ _ _)); simp (maxSteps := 2000000) only [go_sem, reduceIte, reduceCtorEq, xA, xL, xD, xE, xM, xS, xB, Tryz.f70, hdg])
 | ((with_reducible refine hK _ ?_); clear hK K)
 | (with_reducible apply_assumption -exfalso only [*]))
  all_goals (first | (exact dat_n fun g => by have := g; exact dat4_n (by omega) hc g) | (have h4 := dat_all haj (by omega); refine dat_b ?_; simp only [Bool.and_eq_true, decide_eq_true_eq]; unfold datO; exact ⟨fun h => by omega, fun h => by omega⟩))
end Go.Proofs.YtdhgiklbkmkblaaGreat
set_option maxRecDepth 100000
set_option maxHeartbeats 4000000
namespace Go.Proofs.YtdhgiklbkmkblaaGreat
open Go.RowKit Go.Sea
open Nat renaming reduceAdd → xA, reduceLT → xL, reduceLeDiff → xD, reduceEqDiff → xE, reduceMul → xM, reduceSub → xS, reduceBEq → xB
theorem bo_23 : boD Tryz.prog 23 = false := by kernel_rfl
theorem eq_23 : eqD Tryz.prog 23 = some (true, [.int .i64, .int .i64, .int .i64, .int .i64, .int .i64, .int .i64, .int .i64]) := by kernel_rfl
theorem fnok_48 : fnOk Tryz.prog 48 = true := by kernel_rfl
theorem fnok_49 : fnOk Tryz.prog 49 = true := by kernel_rfl
theorem fnok_69 : fnOk Tryz.prog 69 = true := by kernel_rfl
theorem fnok_70 : fnOk Tryz.prog 70 = true := by kernel_rfl
theorem fnok_72 : fnOk Tryz.prog 72 = true := by kernel_rfl
theorem fnok_73 : fnOk Tryz.prog 73 = true := by kernel_rfl
theorem fnok_85 : fnOk Tryz.prog 85 = true := by kernel_rfl
theorem fnok_86 : fnOk Tryz.prog 86 = true := by kernel_rfl
theorem fnok_87 : fnOk Tryz.prog 87 = true := by kernel_rfl
theorem of_27_0 : offOf Tryz.prog 27 0 = some 0 := by kernel_rfl
theorem of_27_1 : offOf Tryz.prog 27 1 = some 1 := by kernel_rfl
theorem of_27_2 : offOf Tryz.prog 27 2 = some 2 := by kernel_rfl
theorem of_27_3 : offOf Tryz.prog 27 3 = some 3 := by kernel_rfl
theorem of_27_4 : offOf Tryz.prog 27 4 = some 10 := by kernel_rfl
theorem of_27_5 : offOf Tryz.prog 27 5 = some 11 := by kernel_rfl
theorem of_27_6 : offOf Tryz.prog 27 6 = some 12 := by kernel_rfl
theorem ty_25 : tyD Tryz.prog 25 = some (false, 1) := by kernel_rfl
attribute [go_sem] bo_23 eq_23 fnok_48 fnok_49 fnok_69 fnok_70 fnok_71 fnok_72 fnok_73 fnok_85 fnok_86 fnok_87 of_27_0 of_27_1 of_27_2 of_27_3 of_27_4 of_27_5 of_27_6 ty_25
def lsI (a : Nat → Int) (i : Nat) : Int := if i = 0 then 0 else a (i - 1)
theorem lsI_s (a : Nat → Int) (i : Nat) : lsI a (i + 1) = a i := by simp [lsI]
theorem aft_ls {a : Nat → Int} {i : Nat} (h : lsI a i < a i ∧ a i ≤ 10000) (g : ∀ i', i' < i → aftO a 10001 i') : aftO a 10001 i := by
  obtain ⟨h1, h2⟩ := h
  unfold lsI at h1
  by_cases h0 : i = 0
  · rw [if_pos h0] at h1; exact ⟨by omega, by omega, fun h => by omega⟩
  · rw [if_neg h0] at h1
    have := (g (i - 1) (by omega)).1
    exact ⟨by omega, by omega, fun h => by omega⟩
theorem done_ls {q : Nat} {a : Nat → Int} {i : Nat} (hi : (i : Int) < q) (h : a i ≤ lsI a i ∨ a i > 10000) : doneB q a = false := done_f hi fun g => by
  have g1 := g.1; have g2 := g.2.1
  unfold lsI at h
  by_cases h0 : i = 0
  · rw [if_pos h0] at h; omega
  · rw [if_neg h0] at h; have := g.2.2 (by omega); omega
theorem sht_f {s : ShtS} (h : doneB s.q s.dn = false) : false = shtB s := by unfold shtB; rw [h]; rfl
theorem sht_b {s : ShtS} {b : Bool} (h : b = true ↔ (doneB s.q s.dn = true ∧ ((1 ≤ s.ch ∧ s.ch ≤ 1000) ∧ (1 ≤ s.sc ∧ s.sc ≤ 1000) ∧ (1 ≤ s.ed ∧ s.ed ≤ 1000) ∧ (1 ≤ s.cap ∧ s.cap ≤ 100000)) ∧ datB s.m = true ∧ feaB s.n s.f = true)) : b = shtB s := by
  refine Bool.eq_iff_iff.2 (h.trans ?_)
  unfold shtB
  simp only [Bool.and_eq_true, decide_eq_true_eq, and_assoc]
theorem sht_n {s : ShtS} (h : ¬ (doneB s.q s.dn = true ∧ ((1 ≤ s.ch ∧ s.ch ≤ 1000) ∧ (1 ≤ s.sc ∧ s.sc ≤ 1000) ∧ (1 ≤ s.ed ∧ s.ed ≤ 1000) ∧ (1 ≤ s.cap ∧ s.cap ≤ 100000)) ∧ datB s.m = true ∧ feaB s.n s.f = true)) : false = shtB s := sht_b ⟨fun h => (by cases h), fun g => absurd g h⟩
theorem done_i {q : Nat} {a : Nat → Int} {i : Nat} (hi : (q : Int) ≤ i) (g : ∀ i', i' < i → aftO a 10001 i') : doneB q a = true ↔ (q : Int) ≤ 200 := by rw [← done_t hi g]; exact decide_eq_true_iff
theorem seq_b {a b : ShtS} {c : Bool} (h : c = true ↔ ((a.ch = b.ch ∧ a.sc = b.sc ∧ a.ed = b.ed ∧ (a.m.A = b.m.A ∧ a.m.B = b.m.B ∧ a.m.C = b.m.C ∧ a.m.D = b.m.D ∧ a.m.E = b.m.E ∧ a.m.F = b.m.F ∧ a.m.R = b.m.R) ∧ a.cap = b.cap) ∧ eqLI a.q b.q a.dn b.dn = true ∧ eqFI a.n b.n a.f b.f = true)) : c = seqB a b := by
  refine Bool.eq_iff_iff.2 (h.trans ?_)
  unfold seqB
  simp only [Bool.and_eq_true, decide_eq_true_eq, and_assoc]
theorem sheet_p (s : ShtS) (ho : s.Ok) : CallsP Tryz.prog 34 [(shP s)] (.t (.one (.g (.bool (shtB s))))) := by
  have hq := ho.q
  have hn := ho.n
  refine CallsP_of Tryz.func34 rfl (by rw [Tryz.ntmps34]; simp) ?_
  simp only [shP, Tryz.ntmps34, zM, PT.tv, argEnv, Nat.zero_add, Nat.reduceAdd]
  repeat' (first
 | ((with_reducible show AW _ _ _ _); first
 | (with_reducible first | refine aS (fun K hK => ?_) | refine aI ?_ | refine aX ?_ | refine aT ?_ | refine aC ?_ | refine aB ?_)
 | (first
 | (with_reducible first | refine aP 0 [0] ?_ | refine aP 1 [1] ?_ | refine aP 2 [1,3] ?_ | refine aP 3 [1,3,7,8,9] ?_ | refine aP 4 [1,3,7,8,9] ?_ | refine aP 5 [1,3,5,7,8,9] ?_ | refine aP 6 [] ?_ | refine aP 7 [1,5,7,8,9] ?_ | refine aP 8 [1,3,7,8,9] ?_ | refine aP 9 [1] ?_))
 | ((with_reducible show AW _ (Code.loop _) _ _); first
 | ((with_reducible refine aL (c := (Code.seq (Code.region 3 _ _) _)) (ι := Nat) [1,7,8] (fun i => [(3, iA .i64 (lsI s.dn i)), (9, iA .i64 (i : Int))]) (fun i => []) (fun i => i ≤ s.q ∧ (∀ i', i' < i → aftO s.dn 10001 i')) (fun i => s.q - i) 0 ?lg3 ?l13 ?l23 ?li3 ?lr3); (case' lg3 => rintro i _); (case' li3 => try (exact ⟨Nat.zero_le _, fun i hi => absurd hi (Nat.not_lt_zero _)⟩)); (case' lr3 => rintro i ⟨hi, hai⟩ KR hR3; simp only [keepE, hupd, hset, lk, if_true, if_false, xE, reduceIte, zN, lsI_s]))))
 | ((first | (with_reducible refine And.intro ?_ ?_) | (with_reducible refine Need.mk ?_)); focus (first | omega | (intro _; (with_reducible assumption)) | (simp; done)))
 | (with_reducible refine retK_n ?_)
 | ((with_reducible show condN _ _ _ _ _ _); first
 | ((with_reducible refine condN_t ?_ ?_) <;> (intro hc; (try simp only [zB, zC, reduceCtorEq] at hc); (try (exfalso; contradiction)))))
 | ((with_reducible show callGN _ _ _ _ _ _ _ _ _ _); first
 | (refine callGN_q (k := 69) fnok_69 (fun hg => within_p _ _) ?_ ?_)
 | (refine callGN_q (k := 70) fnok_70 (fun hg => dat_p s.m) ?_ ?_)
 | (refine callGN_q (k := 71) fnok_71 (fun hg => flist_p _ _ ho.n ho.f) ?_ ?_))
 | ((with_reducible refine hR3 _ (i + 1) ?_); (try clear hR3 KR))
 | ((with_reducible refine Told.mk ?_); simp only [go_sem, reduceIte, reduceCtorEq, xA, xL, xD, xE, xM, xS, xB, lsI_s, intI] <;> ((((try simp (disch := omega) only [seaWrap, Int.natCast_add, Int.cast_ofNat_Int, and_true, true_and, and_self]); (repeat' (first | omega | rfl | (with_reducible refine And.intro ?_ ?_) | ((exact all_succ (by assumption) (aft_ls hc hai))))); done))))
 | ((fail_if_success (with_reducible show AW _ _ _ _)); simp (maxSteps := 2000000) only [go_sem, reduceIte, reduceCtorEq, xA, xL, xD, xE, xM, xS, xB, Tryz.f34, lsI_s, intI])
 | ((with_reducible refine hK _ ?_); clear hK K)
 | (with_reducible apply_assumption -exfalso only [*]))
  all_goals (first | (exact sht_f (done_ls (by assumption) hc)) | (refine sht_b ?_; (try rw [done_i (by assumption) hai]); simp only [Bool.and_eq_true, decide_eq_true_eq, reduceCtorEq, false_iff]; exact ⟨fun h => by (repeat' (with_reducible refine And.intro ?_ ?_)) <;> first | omega | (simp only [h]; done), fun h => by (repeat' (with_reducible refine And.intro ?_ ?_)) <;> first | omega | (simp only [h]; done)⟩))
theorem rsheet_p (s : ShtS) (ho : s.Ok) : CallsP Tryz.prog 44 [(shP s)] (.t (.one (.g (.bool (shtB s))))) := by
  refine CallsP_of Tryz.func44 rfl (by rw [Tryz.ntmps44]; simp) ?_
  simp only [shP, Tryz.ntmps44, zM, PT.tv, argEnv, Nat.zero_add, Nat.reduceAdd]
  repeat' (first
 | ((with_reducible show AW _ _ _ _); first
 | (with_reducible first | refine aS (fun K hK => ?_) | refine aI ?_ | refine aT ?_ | refine aC ?_)
 | (first
 | (with_reducible first | refine aP 0 [0] ?_ | refine aP 1 [1] ?_ | refine aP 2 [1,3] ?_ | refine aP 3 [1,3,4] ?_ | refine aP 4 [1,3,4,5] ?_ | refine aP 5 [] ?_ | refine aP 6 [1] ?_)))
 | ((first | (with_reducible refine And.intro ?_ ?_) | (with_reducible refine Need.mk ?_)); focus (first | exact True.intro | (simp; done)))
 | (with_reducible refine retK_n ?_)
 | ((with_reducible show condN _ _ _ _ _ _); first
 | ((with_reducible refine condN_t ?_ ?_) <;> (intro hc; (try simp only [zB, zC, reduceCtorEq] at hc); (try (exfalso; contradiction)))))
 | ((with_reducible show callN _ _ _ _ _ _ _ _ _ _); first
 | (refine callN_q (k := 85) fnok_85 (rdat_p s.m) ?_ ?_)
 | (refine callN_q (k := 86) fnok_86 (rdone_p _ _ ho.q) ?_ ?_)
 | (refine callN_q (k := 87) fnok_87 (rflist_p _ _ ho.n ho.f) ?_ ?_))
 | ((fail_if_success (with_reducible show AW _ _ _ _)); simp (maxSteps := 2000000) only [go_sem, reduceIte, reduceCtorEq, xA, xL, xD, xE, xM, xS, xB, Tryz.f44, intI])
 | ((with_reducible refine hK _ ?_); clear hK K))
  all_goals (first | (refine sht_b ?_; (try rw [done_i (by assumption) hai]); simp only [Bool.and_eq_true, decide_eq_true_eq, reduceCtorEq, false_iff]; exact ⟨fun h => by (repeat' (with_reducible refine And.intro ?_ ?_)) <;> first | omega | (simp only [hc]; done), fun h => by (repeat' (with_reducible refine And.intro ?_ ?_)) <;> omega⟩) | (refine sht_n fun g => ?_; obtain ⟨g1, g2, g3, g4⟩ := g; simp only [g1, g3, g4, reduceCtorEq, false_or, Bool.true_eq_false] at hc; omega))
theorem rsame_p (a b : ShtS) (ho : a.Ok) (ho2 : b.Ok) : CallsP Tryz.prog 14 [(shP a), (shP b)] (.t (.one (.g (.bool (seqB a b))))) := by
  refine CallsP_of Tryz.func14 rfl (by rw [Tryz.ntmps14]; simp) ?_
  simp only [shP, Tryz.ntmps14, zM, PT.tv, argEnv, Nat.zero_add, Nat.reduceAdd]
  repeat' (first
 | ((with_reducible show AW _ _ _ _); first
 | (with_reducible first | refine aS (fun K hK => ?_) | refine aT ?_)
 | (first
 | (with_reducible first | refine aP 0 [0,1] ?_ | refine aP 1 [2,3] ?_ | refine aP 2 [2,3,5] ?_ | refine aP 3 [2,3,5,6] ?_)))
 | (((with_reducible refine Need.mk ?_)); focus (exact True.intro))
 | (with_reducible refine retK_n ?_)
 | ((with_reducible show callN _ _ _ _ _ _ _ _ _ _); first
 | (refine callN_q (k := 48) fnok_48 (ints8_p _ _ _ _ ho.q ho2.q) ?_ ?_)
 | (refine callN_q (k := 49) fnok_49 (samel_p _ _ _ _ ho.n ho2.n ho.f ho2.f) ?_ ?_))
 | ((fail_if_success (with_reducible show AW _ _ _ _)); simp (maxSteps := 2000000) only [go_sem, reduceIte, reduceCtorEq, xA, xL, xD, xE, xM, xS, xB, Tryz.f14, Go.Sea.cmpS])
 | ((with_reducible refine hK _ ?_); clear hK K))
  all_goals ((refine seq_b ?_; simp only [Bool.and_eq_true, decide_eq_true_eq, reduceCtorEq, false_iff, beq_iff_eq]; exact ⟨fun h => by simp only [h, and_self], fun h => by simp only [h, and_self]⟩))
end Go.Proofs.YtdhgiklbkmkblaaGreat
set_option maxRecDepth 100000
set_option maxHeartbeats 4000000
namespace Go.Proofs.YtdhgiklbkmkblaaGreat
open Go.RowKit Go.Sea
open Nat renaming reduceAdd → xA, reduceLT → xL, reduceLeDiff → xD, reduceEqDiff → xE, reduceMul → xM, reduceSub → xS, reduceBEq → xB
theorem fnok_90 : fnOk Tryz.prog 90 = true := by kernel_rfl
theorem fnok_91 : fnOk Tryz.prog 91 = true := by kernel_rfl
attribute [go_sem] fnok_90 fnok_91
theorem ipC_len (c : Nat → IV) : ∀ n k, (ipCells c n k).length = n
  | 0, _ => rfl
  | n + 1, k => by simp [ipCells, ipC_len c n (k + 1)]
theorem ipC_get (c : Nat → IV) : ∀ n k o, o < n → (ipCells c n k)[o]? = some (.iv (c (k + o)))
  | n + 1, k, 0, _ => by simp [ipCells]
  | n + 1, k, o + 1, h => by
    simp only [ipCells, List.getElem?_cons_succ]
    rw [ipC_get c n (k + 1) o (by omega), show k + 1 + o = k + (o + 1) by omega]
theorem lstC_get (f : Nat → Nat → IV) (E : Nat) : ∀ n k i o, i < n → o < E → (lstC f E n k)[i * E + o]? = some (.iv (f (k + i) o))
  | n + 1, k, 0, o, _, ho => by
    simp only [lstC, Nat.zero_mul, Nat.zero_add]
    rw [List.getElem?_append_left (by rw [ipC_len]; exact ho), ipC_get _ _ _ _ ho, Nat.zero_add]; rfl
  | n + 1, k, i + 1, o, h, ho => by
    simp only [lstC]
    rw [show (i + 1) * E + o = E + (i * E + o) by rw [Nat.add_mul]; omega, List.getElem?_append_right (by rw [ipC_len]; omega), ipC_len, Nat.add_sub_cancel_left, lstC_get f E n (k + 1) i o (by omega) ho, show k + 1 + i = k + (i + 1) by omega]
theorem ipC_iv (c : Nat → IV) : ∀ n k x, x ∈ ipCells c n k → isIv x
  | 0, _, x, h => by simp [ipCells] at h
  | n + 1, k, x, h => by
    simp only [ipCells, List.mem_cons] at h
    rcases h with rfl | h
    · trivial
    · exact ipC_iv c n (k + 1) x h
theorem lstC_iv (f : Nat → Nat → IV) (E : Nat) : ∀ n k x, x ∈ lstC f E n k → isIv x
  | 0, _, x, h => by simp [lstC] at h
  | n + 1, k, x, h => by
    simp only [lstC, List.mem_append] at h
    rcases h with h | h
    · exact ipC_iv _ _ _ x h
    · exact lstC_iv f E n (k + 1) x h
theorem cpy_eqv {n : Nat} {f : Nat → Feat} : ∀ i o, i < n → o < 9 → (civ ((Go.Sea.lstC (featF f) 9 n 0).getD (i * 9 + o) .any)).eqv (lstF (LF f n) i o) := fun i o hi ho => by
  have := lstC_get (featF f) 9 n 0 i o hi ho
  rw [List.getD, this, Nat.zero_add, ← lstF_LF hi]
  exact IV.eqv_refl _
theorem feaC_pur (f : Nat → Feat) (E n i : Nat) : List.map (CV.purge i) (Go.Sea.lstC (featF f) E n 0) = Go.Sea.lstC (featF f) E n 0 := purge_iv i (lstC_iv _ _ _ _)
theorem rowC_fre {n : Nat} {f : Nat → Feat} (i : Nat) (cs : List CV) : List.map (frzC i cs) (Go.Sea.lstC (featF f) 9 n 0) = Go.Sea.lstC (featF f) 9 n 0 := by
  have key : ∀ l : List CV, (∀ c, c ∈ l → isIv c) → List.map (frzC i cs) l = l := by
    intro l
    induction l with
    | nil => intro _; rfl
    | cons c l ih =>
      intro h
      rw [List.map_cons, ih fun c hc => h c (List.mem_cons_of_mem _ hc)]
      have := h c (List.mem_cons_self ..)
      cases c <;> first | rfl | exact this.elim
  exact key _ (lstC_iv _ _ _ _)
theorem len_300 {l : List Feat} (h : Good l) : l.length ≤ 1000000 := by have := h.n; omega
theorem rApply_t (n : Nat) (f : Nat → Feat) (k : Nat) (o : Nat → OpS) (hn : n ≤ 9223372036854775807) (hf : ∀ i, i < n → (f i).Ok) (hk : k ≤ 9223372036854775807) (ho : ∀ i, i < k → (o i).f.Ok) (hv : feaB n f = true) (hw : opsB k o = true) : CallsP Tryz.prog 46 [.one (.lst 9 n (featF f)), .one (.lst 16 k (oprF o))] (.tup [.one (.lst 9 (apN n f k o) (featF (apF n f k o))), .one (.g (.int .i64 (apI n f k o))), .one (.g (.int .i64 (apE n f k o)))]) := by
  have hG := good_LF hv
  have hn3 := hG.n
  rw [LF_len] at hn3
  have hops := (of_decide_eq_true hw).2
  have hk100 := (of_decide_eq_true hw).1
  refine CallsP_of Tryz.func46 rfl (by rw [Tryz.ntmps46]; simp) ?_
  simp only [Tryz.ntmps46, zM, PT.tv, argEnv, Nat.zero_add, Nat.reduceAdd]
  repeat' (first
 | ((with_reducible show AW _ _ _ _); first
 | (with_reducible first | refine aS (fun K hK => ?_) | refine aI ?_ | refine aX ?_ | refine aT ?_ | refine aC ?_ | refine aB ?_)
 | (first
 | (with_reducible first | refine aP 0 [0,1] ?_ | refine aP 1 [0,1] ?_ | refine aP 2 [0,1,7] ?_ | refine aP 3 [0,1,7,8] ?_ | refine aP 5 [0,1] ?_ | refine AW_frz (c := Code.region 6 _ false) [0] ?_ (aP 6 [1,9] ?_) | refine aP 7 [1,9,10] ?_ | refine aP 8 [1,9,10] ?_ | refine aP 9 [1,9,10] ?_ | refine aP 10 [1,10,11,12] ?_ | refine aP 11 [10,12] ?_ | refine aP 12 [1,10,11] ?_ | refine aP 13 [9] ?_))
 | ((with_reducible show AW _ (Code.loop _) _ _); first
 | ((with_reducible refine aL (c := (Code.seq (Code.seq (Code.region 7 _ _) _) _)) (ι := Nat) [1] (fun i => [(9, .t (.one (.iv (.lst 9 (runL (LF f n) o i).length (lstF (runL (LF f n) o i)))))), (10, iA .i64 (i : Int))]) (fun i => []) (fun i => i ≤ k ∧ (∀ j, j < i → (doL (runL (LF f n) o j) (o j)).1 = 0)) (fun i => k - i) 0 ?lg7 ?l17 ?l27 ?li7 ?lr7); (case' lg7 => rintro i _); (case' li7 => try (exact ⟨Nat.zero_le _, fun i hi => absurd hi (Nat.not_lt_zero _)⟩)); (case' lr7 => rintro i ⟨hi, hai⟩ KR hR7; simp only [keepE, hupd, hset, lk, if_true, if_false, xE, reduceIte, zN, lstF, hv, hw, maxLen, Go.Sea.lstC_len, feaC_pur, rowC_fre]))))
 | ((first | (with_reducible refine And.intro ?_ ?_) | (with_reducible refine Need.mk ?_)); focus (first | exact lstC_iv _ _ _ _ | first | exact True.intro | omega))
 | (with_reducible refine retK_n ?_)
 | ((with_reducible show condN _ _ _ _ _ _); first
 | ((with_reducible refine condN_t ?_ ?_) <;> (intro hc; (try simp only [zB, zC, reduceCtorEq] at hc); ((try (have hO := hops i (by omega); have hg := good_run hG hops i (by omega))); (try (have e0 : k = i := (by omega); subst e0))); (try (exfalso; contradiction)))))
 | ((with_reducible show callN _ _ _ _ _ _ _ _ _ _); first
 | (refine callN_q (k := 87) fnok_87 (rflist_p n f hn hf) ?_ ?_)
 | (refine callN_q (k := 90) fnok_90 (rpatch_p k o hk ho) ?_ ?_)
 | (refine callN_q (k := 91) fnok_91 (rdo_p (runL (LF f n) o i) (o i) (len_300 hg) (lstF_ok hg.f) (ho i (by omega)) hO) ?_ ?_))
 | ((with_reducible refine hR7 _ (i + 1) ?_); (try clear hR7 KR))
 | ((with_reducible refine Told.mk ?_); simp only [go_sem, reduceIte, reduceCtorEq, xA, xL, xD, xE, xM, xS, xB, lstF, hv, hw, maxLen, Go.Sea.lstC_len, feaC_pur, rowC_fre] <;> ((((try simp (disch := omega) only [seaWrap, Int.natCast_add, Int.cast_ofNat_Int, and_true, true_and, and_self]); (repeat' (first | omega | (with_reducible refine And.intro ?_ ?_) | (exact all_succ (by assumption) (by assumption)) | ((rw [← run_z (by assumption)]; exact Or.inr ⟨rfl, fun i o hi ho => IV.eqv_refl _⟩)) | ((exact Or.inr ⟨(LF_len f n).symm, fun i o hi ho => cpy_eqv i o hi ho⟩)))); done))))
 | ((fail_if_success (with_reducible show AW _ _ _ _)); simp (maxSteps := 2000000) only [go_sem, reduceIte, reduceCtorEq, xA, xL, xD, xE, xM, xS, xB, Tryz.f46, lstF, hv, hw, maxLen, Go.Sea.lstC_len, feaC_pur, rowC_fre])
 | ((with_reducible refine hK _ ?_); clear hK K)
 | (with_reducible apply_assumption -exfalso only [*]))
  all_goals (first | (have e := ap_err hv hw (by omega) hai rfl (by assumption); rw [e.1, e.2.1, e.2.2]; (repeat' (first | exact rfl | (with_reducible refine And.intro ?_ ?_))); done) | (have e := ap_ok hv hw (Int.le_refl _) hai; rw [← e.1, ← e.2.1, ← e.2.2]; (repeat' (first | exact rfl | (with_reducible refine And.intro ?_ ?_) | (intro i q hi hq; exact IV.eqv_refl _))); done))
theorem rApply_f (n : Nat) (f : Nat → Feat) (k : Nat) (o : Nat → OpS) (hn : n ≤ 9223372036854775807) (hf : ∀ i, i < n → (f i).Ok) (hk : k ≤ 9223372036854775807) (ho : ∀ i, i < k → (o i).f.Ok) (hv : feaB n f = false) : CallsP Tryz.prog 46 [.one (.lst 9 n (featF f)), .one (.lst 16 k (oprF o))] (.tup [.one (.lst 9 (apN n f k o) (featF (apF n f k o))), .one (.g (.int .i64 (apI n f k o))), .one (.g (.int .i64 (apE n f k o)))]) := by
  refine CallsP_of Tryz.func46 rfl (by rw [Tryz.ntmps46]; simp) ?_
  simp only [Tryz.ntmps46, zM, PT.tv, argEnv, Nat.zero_add, Nat.reduceAdd]
  repeat' (first
 | ((with_reducible show AW _ _ _ _); first
 | (with_reducible first | refine aS (fun K hK => ?_) | refine aT ?_ | refine aC ?_)
 | (first
 | (with_reducible first | refine aP 0 [0,1] ?_ | refine aP 1 [0,1] ?_ | refine aP 2 [0,1,7] ?_ | refine aP 3 [0,1,7,8] ?_ | refine aP 4 [] ?_)))
 | ((first | (with_reducible refine And.intro ?_ ?_) | (with_reducible refine Need.mk ?_)); focus (exact True.intro))
 | (with_reducible refine retK_n ?_)
 | ((with_reducible show condN _ _ _ _ _ _); first
 | ((with_reducible refine condN_t ?_ ?_) <;> (intro hc; (try simp only [zB, zC, reduceCtorEq] at hc); (try (exfalso; contradiction)))))
 | ((with_reducible show callN _ _ _ _ _ _ _ _ _ _); first
 | (refine callN_q (k := 87) fnok_87 (rflist_p n f hn hf) ?_ ?_)
 | (refine callN_q (k := 90) fnok_90 (rpatch_p k o hk ho) ?_ ?_))
 | ((fail_if_success (with_reducible show AW _ _ _ _)); simp (maxSteps := 2000000) only [go_sem, reduceIte, reduceCtorEq, xA, xL, xD, xE, xM, xS, xB, Tryz.f46, hv])
 | ((with_reducible refine hK _ ?_); clear hK K))
  all_goals ((have e := ap_bad (n := n) (f := f) (k := k) (o := o) (by unfold apV; rw [hv]; rfl); rw [e.1, ← e.2.1, ← e.2.2]; (repeat' (first | exact rfl | (with_reducible refine And.intro ?_ ?_))); done))
theorem rApply_g (n : Nat) (f : Nat → Feat) (k : Nat) (o : Nat → OpS) (hn : n ≤ 9223372036854775807) (hf : ∀ i, i < n → (f i).Ok) (hk : k ≤ 9223372036854775807) (ho : ∀ i, i < k → (o i).f.Ok) (hv : feaB n f = true) (hw : opsB k o = false) : CallsP Tryz.prog 46 [.one (.lst 9 n (featF f)), .one (.lst 16 k (oprF o))] (.tup [.one (.lst 9 (apN n f k o) (featF (apF n f k o))), .one (.g (.int .i64 (apI n f k o))), .one (.g (.int .i64 (apE n f k o)))]) := by
  refine CallsP_of Tryz.func46 rfl (by rw [Tryz.ntmps46]; simp) ?_
  simp only [Tryz.ntmps46, zM, PT.tv, argEnv, Nat.zero_add, Nat.reduceAdd]
  repeat' (first
 | ((with_reducible show AW _ _ _ _); first
 | (with_reducible first | refine aS (fun K hK => ?_) | refine aT ?_ | refine aC ?_)
 | (first
 | (with_reducible first | refine aP 0 [0,1] ?_ | refine aP 1 [0,1] ?_ | refine aP 2 [0,1,7] ?_ | refine aP 3 [0,1,7,8] ?_ | refine aP 4 [] ?_)))
 | ((first | (with_reducible refine And.intro ?_ ?_) | (with_reducible refine Need.mk ?_)); focus (exact True.intro))
 | (with_reducible refine retK_n ?_)
 | ((with_reducible show condN _ _ _ _ _ _); first
 | ((with_reducible refine condN_t ?_ ?_) <;> (intro hc; (try simp only [zB, zC, reduceCtorEq] at hc); (try (exfalso; contradiction)))))
 | ((with_reducible show callN _ _ _ _ _ _ _ _ _ _); first
 | (refine callN_q (k := 87) fnok_87 (rflist_p n f hn hf) ?_ ?_)
 | (refine callN_q (k := 90) fnok_90 (rpatch_p k o hk ho) ?_ ?_))
 | ((fail_if_success (with_reducible show AW _ _ _ _)); simp (maxSteps := 2000000) only [go_sem, reduceIte, reduceCtorEq, xA, xL, xD, xE, xM, xS, xB, Tryz.f46, hv, hw])
 | ((with_reducible refine hK _ ?_); clear hK K))
  all_goals ((have e := ap_bad (n := n) (f := f) (k := k) (o := o) (by unfold apV; rw [hv]; rw [hw]; rfl); rw [e.1, ← e.2.1, ← e.2.2]; (repeat' (first | exact rfl | (with_reducible refine And.intro ?_ ?_))); done))
theorem rApply_p (n : Nat) (f : Nat → Feat) (k : Nat) (o : Nat → OpS) (hn : n ≤ 9223372036854775807) (hf : ∀ i, i < n → (f i).Ok) (hk : k ≤ 9223372036854775807) (ho : ∀ i, i < k → (o i).f.Ok) : CallsP Tryz.prog 46 [.one (.lst 9 n (featF f)), .one (.lst 16 k (oprF o))] (.tup [.one (.lst 9 (apN n f k o) (featF (apF n f k o))), .one (.g (.int .i64 (apI n f k o))), .one (.g (.int .i64 (apE n f k o)))]) := by
  cases hv : feaB n f with
  | false => exact rApply_f n f k o hn hf hk ho hv
  | true => cases hw : opsB k o with
    | false => exact rApply_g n f k o hn hf hk ho hv hw
    | true => exact rApply_t n f k o hn hf hk ho hv hw
end Go.Proofs.YtdhgiklbkmkblaaGreat
