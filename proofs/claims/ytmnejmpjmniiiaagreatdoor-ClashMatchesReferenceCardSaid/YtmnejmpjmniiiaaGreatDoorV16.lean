/- Part 16 of 18: contracts of functions and plain laws for the root text. No condition. -/
import Derived.Test.YtmnejmpjmniiiaaGreatDoorV01
import Derived.Test.YtmnejmpjmniiiaaGreatDoorV02
import Derived.Test.YtmnejmpjmniiiaaGreatDoorV03
import Derived.Test.YtmnejmpjmniiiaaGreatDoorV04
import Derived.Test.YtmnejmpjmniiiaaGreatDoorV05
import Derived.Test.YtmnejmpjmniiiaaGreatDoorV06
import Derived.Test.YtmnejmpjmniiiaaGreatDoorV07
import Derived.Test.YtmnejmpjmniiiaaGreatDoorV08
import Derived.Test.YtmnejmpjmniiiaaGreatDoorV09
import Derived.Test.YtmnejmpjmniiiaaGreatDoorV10
import Derived.Test.YtmnejmpjmniiiaaGreatDoorV11
import Derived.Test.YtmnejmpjmniiiaaGreatDoorV12
import Derived.Test.YtmnejmpjmniiiaaGreatDoorV13
import Derived.Test.YtmnejmpjmniiiaaGreatDoorV14
import Derived.Test.YtmnejmpjmniiiaaGreatDoorV15
set_option linter.unusedVariables false
set_option linter.unusedSimpArgs false
set_option linter.unusedSectionVars false
set_option linter.deprecated false
set_option maxRecDepth 100000
set_option maxHeartbeats 4000000
namespace Go.Proofs.YtmnejmpjmniiiaaGreatDoor
open Go.RowKit Go.Sea
open Nat renaming reduceAdd -> xA, reduceLT -> xL, reduceLeDiff -> xD, reduceEqDiff -> xE, reduceMul -> xM, reduceSub -> xS, reduceBEq -> xB
theorem jY : aM Tryz.prog 134 = true := by kernel_rfl
theorem qQ : aM Tryz.prog 135 = true := by kernel_rfl
theorem o8 : aM Tryz.prog 136 = true := by kernel_rfl
theorem vO : aM Tryz.prog 137 = true := by kernel_rfl
attribute [go_sem] jY qQ o8 vO
theorem X9 {l : List aF} (h : ∀ f, f ∈ l -> fI f = true) : ∀ f, f ∈ l -> f.Ok := fun f hf => yc (h f hf)
theorem ag2 {l : List aF} {o : Nat -> bT} {i : Nat} (h : (gJ (eu l o i) (o i)).1 = 0) : r9 (eu l o i) (o i) = eu l o (i + 1) := by unfold r9; rw [if_pos h]; rfl
theorem WU {f : Nat -> aF} {n : Nat} {i q : Nat} (hi : i < n) : bq f i q = eH (LF f n) i q := by
  have : f i = (LF f n).getD i bL := by rw [List.getD, adZ hi]; rfl
  unfold eH bq; rw [this]
theorem adY (f : aF) (o : bT) (ho : f.Ok) (ho2 : o.f.Ok) (hk : o.kd = 3) : au Tryz.prog 137 [.agg [.g (.int .i64 (f.id)), .g (.int .i64 (f.kd)), .g (.int .i64 (f.x)), .g (.int .i64 (f.y)), .g (.int .i64 (f.r)), .lst 2 f.n (bX f.P), .g (.int .i64 (f.d)), .g (.int .i64 (f.s)), .lst 6 f.m (bX f.S)], .agg [.g (.int .i64 (o.kd)), .g (.int .i64 (o.id)), .g (.int .i64 (o.f.id)), .g (.int .i64 (o.f.kd)), .g (.int .i64 (o.f.x)), .g (.int .i64 (o.f.y)), .g (.int .i64 (o.f.r)), .lst 2 o.f.n (bX o.f.P), .g (.int .i64 (o.f.d)), .g (.int .i64 (o.f.s)), .lst 6 o.f.m (bX o.f.S), .g (.int .i64 (o.x)), .g (.int .i64 (o.y)), .g (.int .i64 (o.r)), .g (.int .i64 (o.d)), .g (.int .i64 (o.s))]] (.tup [.agg [.g (.int .i64 ((cu f o).id)), .g (.int .i64 ((cu f o).kd)), .g (.int .i64 ((cu f o).x)), .g (.int .i64 ((cu f o).y)), .g (.int .i64 ((cu f o).r)), .lst 2 (cu f o).n (bX (cu f o).P), .g (.int .i64 ((cu f o).d)), .g (.int .i64 ((cu f o).s)), .lst 6 (cu f o).m (bX (cu f o).S)], .one (.g (.int .i64 (dY f o)))]) := by
  refine ah Tryz.func137 rfl (by rw [Tryz.ntmps137]; simp) ?_
  simp only [Tryz.ntmps137, zM, PT.tv, ak, Nat.zero_add, Nat.reduceAdd]
  repeat' (first
 | ((with_reducible show AW _ _ _ _); first
 | (with_reducible first | refine aS (fun K hK => ?_) | refine aI ?_ | refine aT ?_ | refine aC ?_ | refine aB ?_)
 | (first
 | (with_reducible first | refine aP 0 [0,1] ?_ | refine aP 1 [2,3,4] ?_ | refine aP 2 [2,3,4,6] ?_ | refine aP 3 [2,3,4,6,11] ?_ | refine aP 4 [2,3,4,6] ?_ | refine aP 5 [2,4] ?_ | refine aP 6 [2,3,4] ?_ | refine aP 7 [2,3,4] ?_ | refine aP 14 [2,4] ?_)))
 | ((first | (with_reducible refine And.intro ?_ ?_) | (with_reducible refine Need.mk ?_)); focus (first | exact True.intro | (simp; done) | (simp; omega)))
 | (with_reducible refine aA ?_)
 | ((with_reducible show aY _ _ _ _ _ _); first
 | ((with_reducible refine aH ?_ ?_) <;> (intro hc; (try simp only [zB, zC, reduceCtorEq] at hc); (try (exfalso; contradiction)))))
 | ((with_reducible show aN _ _ _ _ _ _ _ _ _ _); first
 | (refine aj (k := 130) pX (u7 f.kd) ?_ ?_))
 | ((fail_if_success (with_reducible show AW _ _ _ _)); simp (maxSteps := 2000000) only [go_sem, reduceIte, reduceCtorEq, xA, xL, xD, xE, xM, xS, xB, Tryz.f137])
 | ((with_reducible refine hK _ ?_); clear hK K))
  all_goals first
    | (have e := Di (f := f) (o := o) (by omega); rw [e.1, e.2.1]; repeat' (first | exact rfl | (with_reducible refine And.intro ?_ ?_) | (intro i q hi hq; exact IV.aG _)))
    | (have e0 := jH (f := f) (o := o) (by omega); have e := CB e0.1 (by omega); rw [e0.1, e0.2, e.1]; repeat' (first | exact rfl | (with_reducible refine And.intro ?_ ?_) | (intro i q hi hq; exact IV.aG _)))
    | (have e0 := jH (f := f) (o := o) (by omega); have e := Db e0.1 (by omega); rw [e0.1, e0.2, e.1]; repeat' (exact rfl))
    | (have e0 := jH (f := f) (o := o) (by omega); have e := Ct e0.1 (by omega); rw [e0.1, e0.2, e.1]; repeat' (exact rfl))
    | skip
theorem adk (f : aF) (o : bT) (ho : f.Ok) (ho2 : o.f.Ok) (hk : o.kd = 4) : au Tryz.prog 137 [.agg [.g (.int .i64 (f.id)), .g (.int .i64 (f.kd)), .g (.int .i64 (f.x)), .g (.int .i64 (f.y)), .g (.int .i64 (f.r)), .lst 2 f.n (bX f.P), .g (.int .i64 (f.d)), .g (.int .i64 (f.s)), .lst 6 f.m (bX f.S)], .agg [.g (.int .i64 (o.kd)), .g (.int .i64 (o.id)), .g (.int .i64 (o.f.id)), .g (.int .i64 (o.f.kd)), .g (.int .i64 (o.f.x)), .g (.int .i64 (o.f.y)), .g (.int .i64 (o.f.r)), .lst 2 o.f.n (bX o.f.P), .g (.int .i64 (o.f.d)), .g (.int .i64 (o.f.s)), .lst 6 o.f.m (bX o.f.S), .g (.int .i64 (o.x)), .g (.int .i64 (o.y)), .g (.int .i64 (o.r)), .g (.int .i64 (o.d)), .g (.int .i64 (o.s))]] (.tup [.agg [.g (.int .i64 ((cu f o).id)), .g (.int .i64 ((cu f o).kd)), .g (.int .i64 ((cu f o).x)), .g (.int .i64 ((cu f o).y)), .g (.int .i64 ((cu f o).r)), .lst 2 (cu f o).n (bX (cu f o).P), .g (.int .i64 ((cu f o).d)), .g (.int .i64 ((cu f o).s)), .lst 6 (cu f o).m (bX (cu f o).S)], .one (.g (.int .i64 (dY f o)))]) := by
  refine ah Tryz.func137 rfl (by rw [Tryz.ntmps137]; simp) ?_
  simp only [Tryz.ntmps137, zM, PT.tv, ak, Nat.zero_add, Nat.reduceAdd]
  repeat' (first
 | ((with_reducible show AW _ _ _ _); first
 | (with_reducible first | refine aS (fun K hK => ?_) | refine aI ?_ | refine aT ?_ | refine aC ?_ | refine aB ?_)
 | (first
 | (with_reducible first | refine aP 0 [0,1] ?_ | refine aP 1 [2,3,4] ?_ | refine aP 2 [2,3,4,6] ?_ | refine aP 3 [2,3,4,6,11] ?_ | refine aP 8 [2,3,4,11] ?_ | refine aP 9 [2,3,4] ?_ | refine aP 10 [2,4] ?_ | refine aP 11 [2,3,4] ?_ | refine aP 14 [2,4] ?_)))
 | ((first | (with_reducible refine And.intro ?_ ?_) | (with_reducible refine Need.mk ?_)); focus (first | exact True.intro | (simp; done)))
 | (with_reducible refine aA ?_)
 | ((with_reducible show aY _ _ _ _ _ _); first
 | ((with_reducible refine aH ?_ ?_) <;> (intro hc; (try simp only [zB, zC, reduceCtorEq] at hc); (try (exfalso; first | contradiction | omega)))))
 | ((with_reducible show aN _ _ _ _ _ _ _ _ _ _); first
 | (refine aj (k := 130) pX (u7 f.kd) ?_ ?_))
 | ((fail_if_success (with_reducible show AW _ _ _ _)); simp (maxSteps := 2000000) only [go_sem, reduceIte, reduceCtorEq, xA, xL, xD, xE, xM, xS, xB, Tryz.f137])
 | ((with_reducible refine hK _ ?_); clear hK K))
  all_goals first
    | (have e := Di (f := f) (o := o) (by omega); rw [e.1, e.2.1]; repeat' (first | exact rfl | (with_reducible refine And.intro ?_ ?_) | (intro i q hi hq; exact IV.aG _)))
    | (have e0 := jH (f := f) (o := o) (by omega); have e := CB e0.1 (by omega); rw [e0.1, e0.2, e.1]; repeat' (exact rfl))
    | (have e0 := jH (f := f) (o := o) (by omega); have e := Db e0.1 (by omega); rw [e0.1, e0.2, e.1]; repeat' (first | exact rfl | (with_reducible refine And.intro ?_ ?_) | (intro i q hi hq; exact IV.aG _)))
    | (have e0 := jH (f := f) (o := o) (by omega); have e := Ct e0.1 (by omega); rw [e0.1, e0.2, e.1]; repeat' (exact rfl))
    | skip
theorem aci (f : aF) (o : bT) (ho : f.Ok) (ho2 : o.f.Ok) (hk : o.kd = 5) : au Tryz.prog 137 [.agg [.g (.int .i64 (f.id)), .g (.int .i64 (f.kd)), .g (.int .i64 (f.x)), .g (.int .i64 (f.y)), .g (.int .i64 (f.r)), .lst 2 f.n (bX f.P), .g (.int .i64 (f.d)), .g (.int .i64 (f.s)), .lst 6 f.m (bX f.S)], .agg [.g (.int .i64 (o.kd)), .g (.int .i64 (o.id)), .g (.int .i64 (o.f.id)), .g (.int .i64 (o.f.kd)), .g (.int .i64 (o.f.x)), .g (.int .i64 (o.f.y)), .g (.int .i64 (o.f.r)), .lst 2 o.f.n (bX o.f.P), .g (.int .i64 (o.f.d)), .g (.int .i64 (o.f.s)), .lst 6 o.f.m (bX o.f.S), .g (.int .i64 (o.x)), .g (.int .i64 (o.y)), .g (.int .i64 (o.r)), .g (.int .i64 (o.d)), .g (.int .i64 (o.s))]] (.tup [.agg [.g (.int .i64 ((cu f o).id)), .g (.int .i64 ((cu f o).kd)), .g (.int .i64 ((cu f o).x)), .g (.int .i64 ((cu f o).y)), .g (.int .i64 ((cu f o).r)), .lst 2 (cu f o).n (bX (cu f o).P), .g (.int .i64 ((cu f o).d)), .g (.int .i64 ((cu f o).s)), .lst 6 (cu f o).m (bX (cu f o).S)], .one (.g (.int .i64 (dY f o)))]) := by
  refine ah Tryz.func137 rfl (by rw [Tryz.ntmps137]; simp) ?_
  simp only [Tryz.ntmps137, zM, PT.tv, ak, Nat.zero_add, Nat.reduceAdd]
  repeat' (first
 | ((with_reducible show AW _ _ _ _); first
 | (with_reducible first | refine aS (fun K hK => ?_) | refine aT ?_ | refine aC ?_ | refine aB ?_)
 | (first
 | (with_reducible first | refine aP 0 [0,1] ?_ | refine aP 1 [2,3,4] ?_ | refine aP 2 [2,3,4,6] ?_ | refine aP 3 [2,3,4,6,11] ?_ | refine aP 8 [2,3,4,11] ?_ | refine aP 12 [2,3,4,11] ?_ | refine aP 13 [2,3,4] ?_ | refine aP 14 [2,4] ?_)))
 | ((first | (with_reducible refine And.intro ?_ ?_) | (with_reducible refine Need.mk ?_)); focus (exact True.intro))
 | (with_reducible refine aA ?_)
 | ((with_reducible show aY _ _ _ _ _ _); first
 | ((with_reducible refine aH ?_ ?_) <;> (intro hc; (try simp only [zB, zC, reduceCtorEq] at hc); (try (exfalso; first | contradiction | omega)))))
 | ((with_reducible show aN _ _ _ _ _ _ _ _ _ _); first
 | (refine aj (k := 130) pX (u7 f.kd) ?_ ?_))
 | ((fail_if_success (with_reducible show AW _ _ _ _)); simp (maxSteps := 2000000) only [go_sem, reduceIte, reduceCtorEq, xA, xL, xD, xE, xM, xS, xB, Tryz.f137])
 | ((with_reducible refine hK _ ?_); clear hK K))
  all_goals first
    | (have e := Di (f := f) (o := o) (by omega); rw [e.1, e.2.1]; repeat' (exact rfl))
    | (have e0 := jH (f := f) (o := o) (by omega); have e := CB e0.1 (by omega); rw [e0.1, e0.2, e.1]; repeat' (exact rfl))
    | (have e0 := jH (f := f) (o := o) (by omega); have e := Db e0.1 (by omega); rw [e0.1, e0.2, e.1]; repeat' (exact rfl))
    | (have e0 := jH (f := f) (o := o) (by omega); have e := Ct e0.1 (by omega); rw [e0.1, e0.2, e.1]; repeat' (first | exact rfl | (with_reducible refine And.intro ?_ ?_) | (intro i q hi hq; exact IV.aG _)))
    | skip
theorem XD (l : List aF) (o : bT) (hl : l.length <= 1000000) (hf : ∀ f, f ∈ l -> f.Ok) (ho : o.f.Ok) (hk : o.kd = 1) (hq : idx l o.id = none) : au Tryz.prog 109 [.one (.lst 9 (l).length (eH (l))), .agg [.g (.int .i64 (o.kd)), .g (.int .i64 (o.id)), .g (.int .i64 (o.f.id)), .g (.int .i64 (o.f.kd)), .g (.int .i64 (o.f.x)), .g (.int .i64 (o.f.y)), .g (.int .i64 (o.f.r)), .lst 2 o.f.n (bX o.f.P), .g (.int .i64 (o.f.d)), .g (.int .i64 (o.f.s)), .lst 6 o.f.m (bX o.f.S), .g (.int .i64 (o.x)), .g (.int .i64 (o.y)), .g (.int .i64 (o.r)), .g (.int .i64 (o.d)), .g (.int .i64 (o.s))]] (.tup [.one (.lst 9 (r9 l o).length (eH (r9 l o))), .one (.g (.int .i64 ((gJ l o).1)))]) := by
  have hd1 : (o.kd = 1) = True := by simp [hk]
  have hd2 : True := trivial
  have hpl : True := trivial
  refine ah Tryz.func109 rfl (by rw [Tryz.ntmps109]; simp) ?_
  simp only [Tryz.ntmps109, zM, PT.tv, ak, Nat.zero_add, Nat.reduceAdd]
  repeat' (first
 | ((with_reducible show AW _ _ _ _); first
 | (with_reducible first | refine aS (fun K hK => ?_) | refine aI ?_ | refine aT ?_ | refine aC ?_)
 | ((with_reducible first | refine aP 0 [0,1] ?_ | refine aP 1 [0,3] ?_ | refine aP 2 [0,3,6] ?_ | refine aP 3 [0,3,6] ?_ | refine aP 5 [0,3] ?_ | refine aP 6 [] ?_ | refine aP 7 [0,3] ?_)))
 | ((first | (with_reducible refine And.intro ?_ ?_) | (with_reducible refine Need.mk ?_)); focus (exact True.intro))
 | (with_reducible refine aA ?_)
 | ((with_reducible show aY _ _ _ _ _ _); first
 | ((with_reducible refine aH ?_ ?_) <;> (intro hc; (try simp only [zB, zC, reduceCtorEq] at hc); (try (exfalso; contradiction)))))
 | ((with_reducible show aN _ _ _ _ _ _ _ _ _ _); first
 | (refine aj (k := 134) jY (I6 l hl _ hq) ?_ ?_)
 | (refine aj (k := 135) qQ (DU l hl o.f) ?_ ?_))
 | ((fail_if_success (with_reducible show AW _ _ _ _)); simp (maxSteps := 2000000) only [go_sem, reduceIte, reduceCtorEq, xA, xL, xD, xE, xM, xS, xB, Tryz.f109, eH, hd1, hd2, Int.reduceEq])
 | ((with_reducible refine hK _ ?_); clear hK K))
  all_goals (first | (have e := afh hk hq (by omega); rw [e.1, e.2]; (repeat' (first | exact rfl | (with_reducible refine And.intro ?_ ?_) | (intro i q hi hq; exact IV.aG _))); done) | (have e := agS hk hq (by omega); rw [e.1, e.2]; (repeat' (first | exact rfl | (with_reducible refine And.intro ?_ ?_))); done))
theorem Xt (l : List aF) (o : bT) (hl : l.length <= 1000000) (hf : ∀ f, f ∈ l -> f.Ok) (ho : o.f.Ok) (hk : o.kd = 1) (g : aF) (hq : idx l o.id = some g) : au Tryz.prog 109 [.one (.lst 9 (l).length (eH (l))), .agg [.g (.int .i64 (o.kd)), .g (.int .i64 (o.id)), .g (.int .i64 (o.f.id)), .g (.int .i64 (o.f.kd)), .g (.int .i64 (o.f.x)), .g (.int .i64 (o.f.y)), .g (.int .i64 (o.f.r)), .lst 2 o.f.n (bX o.f.P), .g (.int .i64 (o.f.d)), .g (.int .i64 (o.f.s)), .lst 6 o.f.m (bX o.f.S), .g (.int .i64 (o.x)), .g (.int .i64 (o.y)), .g (.int .i64 (o.r)), .g (.int .i64 (o.d)), .g (.int .i64 (o.s))]] (.tup [.one (.lst 9 (r9 l o).length (eH (r9 l o))), .one (.g (.int .i64 ((gJ l o).1)))]) := by
  have hd1 : (o.kd = 1) = True := by simp [hk]
  have hd2 : True := trivial
  have hpl : qD l o.id < l.length := (o7 hq).1
  refine ah Tryz.func109 rfl (by rw [Tryz.ntmps109]; simp) ?_
  simp only [Tryz.ntmps109, zM, PT.tv, ak, Nat.zero_add, Nat.reduceAdd]
  repeat' (first
 | ((with_reducible show AW _ _ _ _); first
 | (with_reducible first | refine aS (fun K hK => ?_) | refine aT ?_ | refine aC ?_)
 | ((with_reducible first | refine aP 0 [0,1] ?_ | refine aP 1 [0,3] ?_ | refine aP 2 [0,3,6] ?_ | refine aP 3 [0,3,6] ?_ | refine aP 4 [] ?_)))
 | ((first | (with_reducible refine And.intro ?_ ?_) | (with_reducible refine Need.mk ?_)); focus (exact True.intro))
 | (with_reducible refine aA ?_)
 | ((with_reducible show aY _ _ _ _ _ _); first
 | ((with_reducible refine aH ?_ ?_) <;> (intro hc; (try simp only [zB, zC, reduceCtorEq] at hc); (try (exfalso; contradiction)))))
 | ((with_reducible show aN _ _ _ _ _ _ _ _ _ _); first
 | (refine aj (k := 134) jY (oW l hl _ g hq) ?_ ?_))
 | ((fail_if_success (with_reducible show AW _ _ _ _)); simp (maxSteps := 2000000) only [go_sem, reduceIte, reduceCtorEq, xA, xL, xD, xE, xM, xS, xB, Tryz.f109, eH, hd1, hd2, Int.reduceEq])
 | ((with_reducible refine hK _ ?_); clear hK K))
  all_goals ((have e := agl hk hq; rw [e.1, e.2]; (repeat' (first | exact rfl | (with_reducible refine And.intro ?_ ?_))); done))
theorem acp (l : List aF) (o : bT) (hl : l.length <= 1000000) (hf : ∀ f, f ∈ l -> f.Ok) (ho : o.f.Ok) (hk : o.kd ≠ 1) (hq : idx l o.id = none) : au Tryz.prog 109 [.one (.lst 9 (l).length (eH (l))), .agg [.g (.int .i64 (o.kd)), .g (.int .i64 (o.id)), .g (.int .i64 (o.f.id)), .g (.int .i64 (o.f.kd)), .g (.int .i64 (o.f.x)), .g (.int .i64 (o.f.y)), .g (.int .i64 (o.f.r)), .lst 2 o.f.n (bX o.f.P), .g (.int .i64 (o.f.d)), .g (.int .i64 (o.f.s)), .lst 6 o.f.m (bX o.f.S), .g (.int .i64 (o.x)), .g (.int .i64 (o.y)), .g (.int .i64 (o.r)), .g (.int .i64 (o.d)), .g (.int .i64 (o.s))]] (.tup [.one (.lst 9 (r9 l o).length (eH (r9 l o))), .one (.g (.int .i64 ((gJ l o).1)))]) := by
  have hd1 : (o.kd = 1) = False := by simp [hk]
  have hd2 : True := trivial
  have hpl : True := trivial
  refine ah Tryz.func109 rfl (by rw [Tryz.ntmps109]; simp) ?_
  simp only [Tryz.ntmps109, zM, PT.tv, ak, Nat.zero_add, Nat.reduceAdd]
  repeat' (first
 | ((with_reducible show AW _ _ _ _); first
 | (with_reducible first | refine aS (fun K hK => ?_) | refine aI ?_ | refine aT ?_ | refine aC ?_)
 | ((with_reducible first | refine aP 0 [0,1] ?_ | refine aP 1 [0,3] ?_ | refine aP 2 [0,3,6] ?_ | refine aP 8 [0,3,6] ?_ | refine aP 9 [] ?_)))
 | ((first | (with_reducible refine And.intro ?_ ?_) | (with_reducible refine Need.mk ?_)); focus (exact True.intro))
 | (with_reducible refine aA ?_)
 | ((with_reducible show aY _ _ _ _ _ _); first
 | ((with_reducible refine aH ?_ ?_) <;> (intro hc; (try simp only [zB, zC, reduceCtorEq] at hc); (try (exfalso; contradiction)))))
 | ((with_reducible show aN _ _ _ _ _ _ _ _ _ _); first
 | (refine aj (k := 134) jY (I6 l hl _ hq) ?_ ?_))
 | ((fail_if_success (with_reducible show AW _ _ _ _)); simp (maxSteps := 2000000) only [go_sem, reduceIte, reduceCtorEq, xA, xL, xD, xE, xM, xS, xB, Tryz.f109, eH, hd1, hd2, Int.reduceEq])
 | ((with_reducible refine hK _ ?_); clear hK K))
  all_goals ((have e := agm hk hq; rw [e.1, e.2]; (repeat' (first | exact rfl | (with_reducible refine And.intro ?_ ?_))); done))
theorem abn (l : List aF) (o : bT) (hl : l.length <= 1000000) (hf : ∀ f, f ∈ l -> f.Ok) (ho : o.f.Ok) (hk : o.kd = 2) (g : aF) (hq : idx l o.id = some g) : au Tryz.prog 109 [.one (.lst 9 (l).length (eH (l))), .agg [.g (.int .i64 (o.kd)), .g (.int .i64 (o.id)), .g (.int .i64 (o.f.id)), .g (.int .i64 (o.f.kd)), .g (.int .i64 (o.f.x)), .g (.int .i64 (o.f.y)), .g (.int .i64 (o.f.r)), .lst 2 o.f.n (bX o.f.P), .g (.int .i64 (o.f.d)), .g (.int .i64 (o.f.s)), .lst 6 o.f.m (bX o.f.S), .g (.int .i64 (o.x)), .g (.int .i64 (o.y)), .g (.int .i64 (o.r)), .g (.int .i64 (o.d)), .g (.int .i64 (o.s))]] (.tup [.one (.lst 9 (r9 l o).length (eH (r9 l o))), .one (.g (.int .i64 ((gJ l o).1)))]) := by
  have hd1 : (o.kd = 1) = False := by simp [hk]
  have hd2 : (o.kd = 2) = True := by simp [hk]
  have hpl : qD l o.id < l.length := (o7 hq).1
  refine ah Tryz.func109 rfl (by rw [Tryz.ntmps109]; simp) ?_
  simp only [Tryz.ntmps109, zM, PT.tv, ak, Nat.zero_add, Nat.reduceAdd]
  repeat' (first
 | ((with_reducible show AW _ _ _ _); first
 | (with_reducible first | refine aS (fun K hK => ?_) | refine aI ?_ | refine aT ?_ | refine aC ?_)
 | ((with_reducible first | refine aP 0 [0,1] ?_ | refine aP 1 [0,3] ?_ | refine aP 2 [0,3,6] ?_ | refine aP 8 [0,3,6] ?_ | refine aP 10 [0,3,6] ?_ | refine aP 11 [0,3] ?_)))
 | ((first | (with_reducible refine And.intro ?_ ?_) | (with_reducible refine Need.mk ?_)); focus (exact True.intro))
 | (with_reducible refine aA ?_)
 | ((with_reducible show aY _ _ _ _ _ _); first
 | ((with_reducible refine aH ?_ ?_) <;> (intro hc; (try simp only [zB, zC, reduceCtorEq] at hc); (try (exfalso; first | contradiction | omega)))))
 | ((with_reducible show aN _ _ _ _ _ _ _ _ _ _); first
 | (refine aj (k := 134) jY (oW l hl _ g hq) ?_ ?_)
 | (refine aj (k := 136) o8 (ER l hl _) ?_ ?_))
 | ((fail_if_success (with_reducible show AW _ _ _ _)); simp (maxSteps := 2000000) only [go_sem, reduceIte, reduceCtorEq, xA, xL, xD, xE, xM, xS, xB, Tryz.f109, eH, hd1, hd2, Int.reduceEq])
 | ((with_reducible refine hK _ ?_); clear hK K))
  all_goals ((have e := ain hk hq; rw [e.1, e.2]; (repeat' (first | exact rfl | (with_reducible refine And.intro ?_ ?_) | (intro i q hi hq; exact IV.aG _))); done))
theorem aeo (l : List aF) (o : bT) (hl : l.length <= 1000000) (hf : ∀ f, f ∈ l -> f.Ok) (ho : o.f.Ok) (hk : o.kd = 3) (g : aF) (hq : idx l o.id = some g) (hp : qD l o.id < l.length /\ l.getD (qD l o.id) bL = g) : au Tryz.prog 109 [.one (.lst 9 (l).length (eH (l))), .agg [.g (.int .i64 (o.kd)), .g (.int .i64 (o.id)), .g (.int .i64 (o.f.id)), .g (.int .i64 (o.f.kd)), .g (.int .i64 (o.f.x)), .g (.int .i64 (o.f.y)), .g (.int .i64 (o.f.r)), .lst 2 o.f.n (bX o.f.P), .g (.int .i64 (o.f.d)), .g (.int .i64 (o.f.s)), .lst 6 o.f.m (bX o.f.S), .g (.int .i64 (o.x)), .g (.int .i64 (o.y)), .g (.int .i64 (o.r)), .g (.int .i64 (o.d)), .g (.int .i64 (o.s))]] (.tup [.one (.lst 9 (r9 l o).length (eH (r9 l o))), .one (.g (.int .i64 ((gJ l o).1)))]) := by
  have hd1 : (o.kd = 1) = False := by simp [hk]
  have hd2 : (o.kd = 2) = False := by simp [hk]
  have hpl : qD l o.id < l.length := (o7 hq).1
  refine ah Tryz.func109 rfl (by rw [Tryz.ntmps109]; simp) ?_
  simp only [Tryz.ntmps109, zM, PT.tv, ak, Nat.zero_add, Nat.reduceAdd]
  repeat' (first
 | ((with_reducible show AW _ _ _ _); first
 | (with_reducible first | refine aS (fun K hK => ?_) | refine aI ?_ | refine aT ?_ | refine aC ?_)
 | (first
 | (with_reducible first | refine aP 0 [0,1] ?_ | refine aP 1 [0,3] ?_ | refine aP 2 [0,3,6] ?_ | refine aP 8 [0,3,6] ?_ | refine aP 10 [0,3,6] ?_)
 | ((with_reducible refine aR (c := Code.region 12 _ true) [0,3,6] ?_); (with_reducible refine aD ?_ ?_ ?_ ?_); (focus kernel_rfl); (focus kernel_rfl); (focus kernel_rfl))
 | (with_reducible first | refine aP 13 [0,3,7,8] ?_ | refine aP 14 [8] ?_)
 | ((with_reducible refine aR (c := Code.region 15 _ true) [0,3,7] ?_); (with_reducible refine aD ?_ ?_ ?_ ?_); (focus kernel_rfl); (focus kernel_rfl); (focus kernel_rfl))))
 | ((first | (with_reducible refine And.intro ?_ ?_) | (with_reducible refine Need.mk ?_)); focus (first | exact True.intro | omega))
 | (with_reducible refine aA ?_)
 | ((with_reducible show aY _ _ _ _ _ _); first
 | ((with_reducible refine aH ?_ ?_) <;> (intro hc; (try simp only [zB, zC, reduceCtorEq] at hc); (try (exfalso; first | contradiction | omega)))))
 | ((with_reducible refine And.intro ?_ ?_); focus ((with_reducible show fB _ _ _ = true); kernel_rfl))
 | ((with_reducible show aN _ _ _ _ _ _ _ _ _ _); (refine aj (k := 134) jY (oW l hl _ g hq) ?_ ?_))
 | ((with_reducible show dA _ _ _ _ _ _ _ _ _ _ _ _ _); first
 | (refine aV (k := 137) vO (adY g o (hf g (fV hq).1) ho hk) ?_ ?_)
 | (refine aV (k := 136) o8 (ER l hl _) ?_ ?_)
 | (refine aV (k := 135) qQ (DU (iL l o.id) (Nat.le_trans (DK l o.id) hl) (cu g o)) ?_ ?_))
 | ((fail_if_success (with_reducible show AW _ _ _ _)); simp (maxSteps := 2000000) only [go_sem, reduceIte, reduceCtorEq, xA, xL, xD, xE, xM, xS, xB, Tryz.f109, eH, hd1, hd2, hp.2, Int.reduceEq])
 | ((with_reducible refine hK _ ?_); clear hK K))
  all_goals (first | (have e := Qv (by omega) hq (by omega); rw [e.1, e.2]; (repeat' (first | exact rfl | (with_reducible refine And.intro ?_ ?_) | (intro i q hi hq; exact IV.aG _))); done) | (have e := Sg (by omega) hq (by omega); rw [e.1, e.2]; (repeat' (first | exact rfl | (with_reducible refine And.intro ?_ ?_))); done))
theorem adL (l : List aF) (o : bT) (hl : l.length <= 1000000) (hf : ∀ f, f ∈ l -> f.Ok) (ho : o.f.Ok) (hk : o.kd = 4) (g : aF) (hq : idx l o.id = some g) (hp : qD l o.id < l.length /\ l.getD (qD l o.id) bL = g) : au Tryz.prog 109 [.one (.lst 9 (l).length (eH (l))), .agg [.g (.int .i64 (o.kd)), .g (.int .i64 (o.id)), .g (.int .i64 (o.f.id)), .g (.int .i64 (o.f.kd)), .g (.int .i64 (o.f.x)), .g (.int .i64 (o.f.y)), .g (.int .i64 (o.f.r)), .lst 2 o.f.n (bX o.f.P), .g (.int .i64 (o.f.d)), .g (.int .i64 (o.f.s)), .lst 6 o.f.m (bX o.f.S), .g (.int .i64 (o.x)), .g (.int .i64 (o.y)), .g (.int .i64 (o.r)), .g (.int .i64 (o.d)), .g (.int .i64 (o.s))]] (.tup [.one (.lst 9 (r9 l o).length (eH (r9 l o))), .one (.g (.int .i64 ((gJ l o).1)))]) := by
  have hd1 : (o.kd = 1) = False := by simp [hk]
  have hd2 : (o.kd = 2) = False := by simp [hk]
  have hpl : qD l o.id < l.length := (o7 hq).1
  refine ah Tryz.func109 rfl (by rw [Tryz.ntmps109]; simp) ?_
  simp only [Tryz.ntmps109, zM, PT.tv, ak, Nat.zero_add, Nat.reduceAdd]
  repeat' (first
 | ((with_reducible show AW _ _ _ _); first
 | (with_reducible first | refine aS (fun K hK => ?_) | refine aI ?_ | refine aT ?_ | refine aC ?_)
 | (first
 | (with_reducible first | refine aP 0 [0,1] ?_ | refine aP 1 [0,3] ?_ | refine aP 2 [0,3,6] ?_ | refine aP 8 [0,3,6] ?_ | refine aP 10 [0,3,6] ?_)
 | ((with_reducible refine aR (c := Code.region 12 _ true) [0,3,6] ?_); (with_reducible refine aD ?_ ?_ ?_ ?_); (focus kernel_rfl); (focus kernel_rfl); (focus kernel_rfl))
 | (with_reducible first | refine aP 13 [0,3,7,8] ?_ | refine aP 14 [8] ?_)
 | ((with_reducible refine aR (c := Code.region 15 _ true) [0,3,7] ?_); (with_reducible refine aD ?_ ?_ ?_ ?_); (focus kernel_rfl); (focus kernel_rfl); (focus kernel_rfl))))
 | ((first | (with_reducible refine And.intro ?_ ?_) | (with_reducible refine Need.mk ?_)); focus (first | exact True.intro | omega))
 | (with_reducible refine aA ?_)
 | ((with_reducible show aY _ _ _ _ _ _); first
 | ((with_reducible refine aH ?_ ?_) <;> (intro hc; (try simp only [zB, zC, reduceCtorEq] at hc); (try (exfalso; first | contradiction | omega)))))
 | ((with_reducible refine And.intro ?_ ?_); focus ((with_reducible show fB _ _ _ = true); kernel_rfl))
 | ((with_reducible show aN _ _ _ _ _ _ _ _ _ _); (refine aj (k := 134) jY (oW l hl _ g hq) ?_ ?_))
 | ((with_reducible show dA _ _ _ _ _ _ _ _ _ _ _ _ _); first
 | (refine aV (k := 137) vO (adk g o (hf g (fV hq).1) ho hk) ?_ ?_)
 | (refine aV (k := 136) o8 (ER l hl _) ?_ ?_)
 | (refine aV (k := 135) qQ (DU (iL l o.id) (Nat.le_trans (DK l o.id) hl) (cu g o)) ?_ ?_))
 | ((fail_if_success (with_reducible show AW _ _ _ _)); simp (maxSteps := 2000000) only [go_sem, reduceIte, reduceCtorEq, xA, xL, xD, xE, xM, xS, xB, Tryz.f109, eH, hd1, hd2, hp.2, Int.reduceEq])
 | ((with_reducible refine hK _ ?_); clear hK K))
  all_goals (first | (have e := Qv (by omega) hq (by omega); rw [e.1, e.2]; (repeat' (first | exact rfl | (with_reducible refine And.intro ?_ ?_) | (intro i q hi hq; exact IV.aG _))); done) | (have e := Sg (by omega) hq (by omega); rw [e.1, e.2]; (repeat' (first | exact rfl | (with_reducible refine And.intro ?_ ?_))); done))
theorem aez (l : List aF) (o : bT) (hl : l.length <= 1000000) (hf : ∀ f, f ∈ l -> f.Ok) (ho : o.f.Ok) (hk : o.kd = 5) (g : aF) (hq : idx l o.id = some g) (hp : qD l o.id < l.length /\ l.getD (qD l o.id) bL = g) : au Tryz.prog 109 [.one (.lst 9 (l).length (eH (l))), .agg [.g (.int .i64 (o.kd)), .g (.int .i64 (o.id)), .g (.int .i64 (o.f.id)), .g (.int .i64 (o.f.kd)), .g (.int .i64 (o.f.x)), .g (.int .i64 (o.f.y)), .g (.int .i64 (o.f.r)), .lst 2 o.f.n (bX o.f.P), .g (.int .i64 (o.f.d)), .g (.int .i64 (o.f.s)), .lst 6 o.f.m (bX o.f.S), .g (.int .i64 (o.x)), .g (.int .i64 (o.y)), .g (.int .i64 (o.r)), .g (.int .i64 (o.d)), .g (.int .i64 (o.s))]] (.tup [.one (.lst 9 (r9 l o).length (eH (r9 l o))), .one (.g (.int .i64 ((gJ l o).1)))]) := by
  have hd1 : (o.kd = 1) = False := by simp [hk]
  have hd2 : (o.kd = 2) = False := by simp [hk]
  have hpl : qD l o.id < l.length := (o7 hq).1
  refine ah Tryz.func109 rfl (by rw [Tryz.ntmps109]; simp) ?_
  simp only [Tryz.ntmps109, zM, PT.tv, ak, Nat.zero_add, Nat.reduceAdd]
  repeat' (first
 | ((with_reducible show AW _ _ _ _); first
 | (with_reducible first | refine aS (fun K hK => ?_) | refine aI ?_ | refine aT ?_ | refine aC ?_)
 | (first
 | (with_reducible first | refine aP 0 [0,1] ?_ | refine aP 1 [0,3] ?_ | refine aP 2 [0,3,6] ?_ | refine aP 8 [0,3,6] ?_ | refine aP 10 [0,3,6] ?_)
 | ((with_reducible refine aR (c := Code.region 12 _ true) [0,3,6] ?_); (with_reducible refine aD ?_ ?_ ?_ ?_); (focus kernel_rfl); (focus kernel_rfl); (focus kernel_rfl))
 | (with_reducible first | refine aP 13 [0,3,7,8] ?_ | refine aP 14 [8] ?_)
 | ((with_reducible refine aR (c := Code.region 15 _ true) [0,3,7] ?_); (with_reducible refine aD ?_ ?_ ?_ ?_); (focus kernel_rfl); (focus kernel_rfl); (focus kernel_rfl))))
 | ((first | (with_reducible refine And.intro ?_ ?_) | (with_reducible refine Need.mk ?_)); focus (first | exact True.intro | omega))
 | (with_reducible refine aA ?_)
 | ((with_reducible show aY _ _ _ _ _ _); first
 | ((with_reducible refine aH ?_ ?_) <;> (intro hc; (try simp only [zB, zC, reduceCtorEq] at hc); (try (exfalso; first | contradiction | omega)))))
 | ((with_reducible refine And.intro ?_ ?_); focus ((with_reducible show fB _ _ _ = true); kernel_rfl))
 | ((with_reducible show aN _ _ _ _ _ _ _ _ _ _); (refine aj (k := 134) jY (oW l hl _ g hq) ?_ ?_))
 | ((with_reducible show dA _ _ _ _ _ _ _ _ _ _ _ _ _); first
 | (refine aV (k := 137) vO (aci g o (hf g (fV hq).1) ho hk) ?_ ?_)
 | (refine aV (k := 136) o8 (ER l hl _) ?_ ?_)
 | (refine aV (k := 135) qQ (DU (iL l o.id) (Nat.le_trans (DK l o.id) hl) (cu g o)) ?_ ?_))
 | ((fail_if_success (with_reducible show AW _ _ _ _)); simp (maxSteps := 2000000) only [go_sem, reduceIte, reduceCtorEq, xA, xL, xD, xE, xM, xS, xB, Tryz.f109, eH, hd1, hd2, hp.2, Int.reduceEq])
 | ((with_reducible refine hK _ ?_); clear hK K))
  all_goals (first | (have e := Qv (by omega) hq (by omega); rw [e.1, e.2]; (repeat' (first | exact rfl | (with_reducible refine And.intro ?_ ?_) | (intro i q hi hq; exact IV.aG _))); done) | (have e := Sg (by omega) hq (by omega); rw [e.1, e.2]; (repeat' (first | exact rfl | (with_reducible refine And.intro ?_ ?_))); done))
theorem ahe (l : List aF) (o : bT) (hl : l.length <= 1000000) (hf : ∀ f, f ∈ l -> f.Ok) (ho : o.f.Ok) (hB : oQ o = true) : au Tryz.prog 109 [.one (.lst 9 (l).length (eH (l))), .agg [.g (.int .i64 (o.kd)), .g (.int .i64 (o.id)), .g (.int .i64 (o.f.id)), .g (.int .i64 (o.f.kd)), .g (.int .i64 (o.f.x)), .g (.int .i64 (o.f.y)), .g (.int .i64 (o.f.r)), .lst 2 o.f.n (bX o.f.P), .g (.int .i64 (o.f.d)), .g (.int .i64 (o.f.s)), .lst 6 o.f.m (bX o.f.S), .g (.int .i64 (o.x)), .g (.int .i64 (o.y)), .g (.int .i64 (o.r)), .g (.int .i64 (o.d)), .g (.int .i64 (o.s))]] (.tup [.one (.lst 9 (r9 l o).length (eH (r9 l o))), .one (.g (.int .i64 ((gJ l o).1)))]) := by
  cases hq : idx l o.id with
  | none =>
    by_cases hk : o.kd = 1
    · exact XD l o hl hf ho hk hq
    · exact acp l o hl hf ho hk hq
  | some g =>
    rcases ZQ hB with hk | hk | hk | hk | hk
    · exact Xt l o hl hf ho hk g hq
    · exact abn l o hl hf ho hk g hq
    · exact aeo l o hl hf ho hk g hq (o7 hq)
    · exact adL l o hl hf ho hk g hq (o7 hq)
    · exact aez l o hl hf ho hk g hq (o7 hq)
end Go.Proofs.YtmnejmpjmniiiaaGreatDoor
set_option maxRecDepth 100000
set_option maxHeartbeats 4000000
namespace Go.Proofs.YtmnejmpjmniiiaaGreatDoor
open Go.RowKit Go.Sea
open Nat renaming reduceAdd -> xA, reduceLT -> xL, reduceLeDiff -> xD, reduceEqDiff -> xE, reduceMul -> xM, reduceSub -> xS, reduceBEq -> xB
theorem uM : aM Tryz.prog 68 = true := by kernel_rfl
attribute [go_sem] yh nY uM Zh
end Go.Proofs.YtmnejmpjmniiiaaGreatDoor
set_option maxRecDepth 100000
set_option maxHeartbeats 4000000
namespace Go.Proofs.YtmnejmpjmniiiaaGreatDoor
open Go.RowKit Go.Sea
open Nat renaming reduceAdd -> xA, reduceLT -> xL, reduceLeDiff -> xD, reduceEqDiff -> xE, reduceMul -> xM, reduceSub -> xS, reduceBEq -> xB
theorem nZ : aM Tryz.prog 70 = true := by kernel_rfl
theorem Jg : aM Tryz.prog 109 = true := by kernel_rfl
attribute [go_sem] nZ Jg
theorem yU (c : Nat -> IV) : ∀ n k, (dI c n k).length = n
  | 0, _ => rfl
  | n + 1, k => by simp [dI, yU c n (k + 1)]
theorem Ni (c : Nat -> IV) : ∀ n k o, o < n -> (dI c n k)[o]? = some (.iv (c (k + o)))
  | n + 1, k, 0, _ => by simp [dI]
  | n + 1, k, o + 1, h => by
    simp only [dI, List.getElem?_cons_succ]
    rw [Ni c n (k + 1) o (by omega), show k + 1 + o = k + (o + 1) by omega]
theorem GI (f : Nat -> Nat -> IV) (E : Nat) : ∀ n k i o, i < n -> o < E -> (iD f E n k)[i * E + o]? = some (.iv (f (k + i) o))
  | n + 1, k, 0, o, _, ho => by
    simp only [iD, Nat.zero_mul, Nat.zero_add]
    rw [List.getElem?_append_left (by rw [yU]; exact ho), Ni _ _ _ _ ho, Nat.zero_add]; rfl
  | n + 1, k, i + 1, o, h, ho => by
    simp only [iD]
    rw [show (i + 1) * E + o = E + (i * E + o) by rw [Nat.add_mul]; omega, List.getElem?_append_right (by rw [yU]; omega), yU, Nat.add_sub_cancel_left, GI f E n (k + 1) i o (by omega) ho, show k + 1 + i = k + (i + 1) by omega]
theorem Te (c : Nat -> IV) : ∀ n k x, x ∈ dI c n k -> kg x
  | 0, _, x, h => by simp [dI] at h
  | n + 1, k, x, h => by
    simp only [dI, List.mem_cons] at h
    rcases h with rfl | h
    · trivial
    · exact Te c n (k + 1) x h
theorem yT (f : Nat -> Nat -> IV) (E : Nat) : ∀ n k x, x ∈ iD f E n k -> kg x
  | 0, _, x, h => by simp [iD] at h
  | n + 1, k, x, h => by
    simp only [iD, List.mem_append] at h
    rcases h with h | h
    · exact Te _ _ _ x h
    · exact yT f E n (k + 1) x h
theorem YW {n : Nat} {f : Nat -> aF} : ∀ i o, i < n -> o < 9 -> (Fu ((Go.Sea.iD (bq f) 9 n 0).getD (i * 9 + o) .any)).eqv (eH (LF f n) i o) := fun i o hi ho => by
  have := GI (bq f) 9 n 0 i o hi ho
  rw [List.getD, this, Nat.zero_add, <- WU hi]
  exact IV.aG _
theorem Ah (f : Nat -> aF) (E n i : Nat) : List.map (CV.bW i) (Go.Sea.iD (bq f) E n 0) = Go.Sea.iD (bq f) E n 0 := jc i (yT _ _ _ _)
theorem BI {n : Nat} {f : Nat -> aF} (i : Nat) (cs : List CV) : List.map (mJ i cs) (Go.Sea.iD (bq f) 9 n 0) = Go.Sea.iD (bq f) 9 n 0 := by
  have key : ∀ l : List CV, (∀ c, c ∈ l -> kg c) -> List.map (mJ i cs) l = l := by
    intro l
    induction l with
    | nil => intro _; rfl
    | cons c l ih =>
      intro h
      rw [List.map_cons, ih fun c hc => h c (List.mem_cons_of_mem _ hc)]
      have := h c (List.mem_cons_self ..)
      cases c <;> first | rfl | exact this.elim
  exact key _ (yT _ _ _ _)
theorem WK {l : List aF} (h : Good l) : l.length <= 1000000 := by have := h.n; omega
theorem Vo (n : Nat) (f : Nat -> aF) (k : Nat) (o : Nat -> bT) (hn : n <= 9223372036854775807) (hf : ∀ i, i < n -> (f i).Ok) (hk : k <= 9223372036854775807) (ho : ∀ i, i < k -> (o i).f.Ok) (hv : gM n f = true) (hw : fO k o = true) : au Tryz.prog 77 [.one (.lst 9 n (bq f)), .one (.lst 16 k (fu o))] (.tup [.one (.lst 9 (Dc n f k o) (bq (Xo n f k o))), .one (.g (.int .i64 (ML n f k o))), .one (.g (.int .i64 (CZ n f k o)))]) := by
  have hG := yw hv
  have hn3 := hG.n
  rw [fC] at hn3
  have hops := (of_decide_eq_true hw).2
  have hk100 := (of_decide_eq_true hw).1
  refine ah Tryz.func77 rfl (by rw [Tryz.ntmps77]; simp) ?_
  simp only [Tryz.ntmps77, zM, PT.tv, ak, Nat.zero_add, Nat.reduceAdd]
  repeat' (first
 | ((with_reducible show AW _ _ _ _); first
 | (with_reducible first | refine aS (fun K hK => ?_) | refine aI ?_ | refine aX ?_ | refine aT ?_ | refine aC ?_ | refine aB ?_)
 | (first
 | (with_reducible first | refine aP 0 [0,1] ?_ | refine aP 1 [0,1] ?_ | refine aP 2 [0,1,7] ?_ | refine aP 3 [0,1,7,8] ?_ | refine aP 5 [0,1] ?_ | refine Dr (c := Code.region 6 _ false) [0] ?_ (aP 6 [1,9] ?_) | refine aP 7 [1,9,10] ?_ | refine aP 8 [1,9,10] ?_ | refine aP 9 [1,9,10] ?_ | refine aP 10 [1,10,11,12] ?_ | refine aP 11 [10,12] ?_ | refine aP 12 [1,10,11] ?_ | refine aP 13 [9] ?_))
 | ((with_reducible show AW _ (Code.loop _) _ _); first
 | ((with_reducible refine aL (c := (Code.seq (Code.seq (Code.region 7 _ _) _) _)) (ι := Nat) [1] (fun i => [(9, .t (.one (.iv (.lst 9 (eu (LF f n) o i).length (eH (eu (LF f n) o i)))))), (10, iA .i64 (i : Int))]) (fun i => []) (fun i => i <= k /\ (∀ j, j < i -> (gJ (eu (LF f n) o j) (o j)).1 = 0)) (fun i => k - i) 0 ?lg7 ?l17 ?l27 ?li7 ?lr7); (case' lg7 => rintro i _); (case' li7 => try (exact ⟨Nat.zero_le _, fun i hi => absurd hi (Nat.not_lt_zero _)⟩)); (case' lr7 => rintro i ⟨hi, hai⟩ KR hR7; simp only [bf, bN, hset, lk, if_true, if_false, xE, reduceIte, zN, eH, hv, hw, maxLen, Go.Sea.nN, Ah, BI]))))
 | ((first | (with_reducible refine And.intro ?_ ?_) | (with_reducible refine Need.mk ?_)); focus (first | exact yT _ _ _ _ | first | exact True.intro | omega))
 | (with_reducible refine aA ?_)
 | ((with_reducible show aY _ _ _ _ _ _); first
 | ((with_reducible refine aH ?_ ?_) <;> (intro hc; (try simp only [zB, zC, reduceCtorEq] at hc); ((try (have hO := hops i (by omega); have hg := jD hG hops i (by omega))); (try (have e0 : k = i := (by omega); subst e0))); (try (exfalso; contradiction)))))
 | ((with_reducible show aN _ _ _ _ _ _ _ _ _ _); first
 | (refine aj (k := 68) uM (vP n f hn hf) ?_ ?_)
 | (refine aj (k := 70) nZ (nC k o hk ho) ?_ ?_)
 | (refine aj (k := 109) Jg (ahe (eu (LF f n) o i) (o i) (WK hg) (X9 hg.f) (ho i (by omega)) hO) ?_ ?_))
 | ((with_reducible refine hR7 _ (i + 1) ?_); (try clear hR7 KR))
 | ((with_reducible refine Told.mk ?_); simp only [go_sem, reduceIte, reduceCtorEq, xA, xL, xD, xE, xM, xS, xB, eH, hv, hw, maxLen, Go.Sea.nN, Ah, BI] <;> ((((try simp (disch := omega) only [aJ, Int.natCast_add, Int.cast_ofNat_Int, and_true, true_and, and_self]); (repeat' (first | omega | (with_reducible refine And.intro ?_ ?_) | (exact all_succ (by assumption) (by assumption)) | ((rw [<- ag2 (by assumption)]; exact Or.inr ⟨rfl, fun i o hi ho => IV.aG _⟩)) | ((exact Or.inr ⟨(fC f n).symm, fun i o hi ho => YW i o hi ho⟩)))); done))))
 | ((fail_if_success (with_reducible show AW _ _ _ _)); simp (maxSteps := 2000000) only [go_sem, reduceIte, reduceCtorEq, xA, xL, xD, xE, xM, xS, xB, Tryz.f77, eH, hv, hw, maxLen, Go.Sea.nN, Ah, BI])
 | ((with_reducible refine hK _ ?_); clear hK K)
 | (with_reducible apply_assumption -exfalso only [*]))
  all_goals (first | (have e := Bb hv hw (by omega) hai rfl (by assumption); rw [e.1, e.2.1, e.2.2]; (repeat' (first | exact rfl | (with_reducible refine And.intro ?_ ?_))); done) | (have e := Jl hv hw (Int.le_refl _) hai; rw [<- e.1, <- e.2.1, <- e.2.2]; (repeat' (first | exact rfl | (with_reducible refine And.intro ?_ ?_) | (intro i q hi hq; exact IV.aG _))); done))
theorem Qx (n : Nat) (f : Nat -> aF) (k : Nat) (o : Nat -> bT) (hn : n <= 9223372036854775807) (hf : ∀ i, i < n -> (f i).Ok) (hk : k <= 9223372036854775807) (ho : ∀ i, i < k -> (o i).f.Ok) (hv : gM n f = false) : au Tryz.prog 77 [.one (.lst 9 n (bq f)), .one (.lst 16 k (fu o))] (.tup [.one (.lst 9 (Dc n f k o) (bq (Xo n f k o))), .one (.g (.int .i64 (ML n f k o))), .one (.g (.int .i64 (CZ n f k o)))]) := by
  refine ah Tryz.func77 rfl (by rw [Tryz.ntmps77]; simp) ?_
  simp only [Tryz.ntmps77, zM, PT.tv, ak, Nat.zero_add, Nat.reduceAdd]
  repeat' (first
 | ((with_reducible show AW _ _ _ _); first
 | (with_reducible first | refine aS (fun K hK => ?_) | refine aT ?_ | refine aC ?_)
 | (first
 | (with_reducible first | refine aP 0 [0,1] ?_ | refine aP 1 [0,1] ?_ | refine aP 2 [0,1,7] ?_ | refine aP 3 [0,1,7,8] ?_ | refine aP 4 [] ?_)))
 | ((first | (with_reducible refine And.intro ?_ ?_) | (with_reducible refine Need.mk ?_)); focus (exact True.intro))
 | (with_reducible refine aA ?_)
 | ((with_reducible show aY _ _ _ _ _ _); first
 | ((with_reducible refine aH ?_ ?_) <;> (intro hc; (try simp only [zB, zC, reduceCtorEq] at hc); (try (exfalso; contradiction)))))
 | ((with_reducible show aN _ _ _ _ _ _ _ _ _ _); first
 | (refine aj (k := 68) uM (vP n f hn hf) ?_ ?_)
 | (refine aj (k := 70) nZ (nC k o hk ho) ?_ ?_))
 | ((fail_if_success (with_reducible show AW _ _ _ _)); simp (maxSteps := 2000000) only [go_sem, reduceIte, reduceCtorEq, xA, xL, xD, xE, xM, xS, xB, Tryz.f77, hv])
 | ((with_reducible refine hK _ ?_); clear hK K))
  all_goals ((have e := DY (n := n) (f := f) (k := k) (o := o) (by unfold Md; rw [hv]; rfl); rw [e.1, <- e.2.1, <- e.2.2]; (repeat' (first | exact rfl | (with_reducible refine And.intro ?_ ?_))); done))
theorem T9 (n : Nat) (f : Nat -> aF) (k : Nat) (o : Nat -> bT) (hn : n <= 9223372036854775807) (hf : ∀ i, i < n -> (f i).Ok) (hk : k <= 9223372036854775807) (ho : ∀ i, i < k -> (o i).f.Ok) (hv : gM n f = true) (hw : fO k o = false) : au Tryz.prog 77 [.one (.lst 9 n (bq f)), .one (.lst 16 k (fu o))] (.tup [.one (.lst 9 (Dc n f k o) (bq (Xo n f k o))), .one (.g (.int .i64 (ML n f k o))), .one (.g (.int .i64 (CZ n f k o)))]) := by
  refine ah Tryz.func77 rfl (by rw [Tryz.ntmps77]; simp) ?_
  simp only [Tryz.ntmps77, zM, PT.tv, ak, Nat.zero_add, Nat.reduceAdd]
  repeat' (first
 | ((with_reducible show AW _ _ _ _); first
 | (with_reducible first | refine aS (fun K hK => ?_) | refine aT ?_ | refine aC ?_)
 | (first
 | (with_reducible first | refine aP 0 [0,1] ?_ | refine aP 1 [0,1] ?_ | refine aP 2 [0,1,7] ?_ | refine aP 3 [0,1,7,8] ?_ | refine aP 4 [] ?_)))
 | ((first | (with_reducible refine And.intro ?_ ?_) | (with_reducible refine Need.mk ?_)); focus (exact True.intro))
 | (with_reducible refine aA ?_)
 | ((with_reducible show aY _ _ _ _ _ _); first
 | ((with_reducible refine aH ?_ ?_) <;> (intro hc; (try simp only [zB, zC, reduceCtorEq] at hc); (try (exfalso; contradiction)))))
 | ((with_reducible show aN _ _ _ _ _ _ _ _ _ _); first
 | (refine aj (k := 68) uM (vP n f hn hf) ?_ ?_)
 | (refine aj (k := 70) nZ (nC k o hk ho) ?_ ?_))
 | ((fail_if_success (with_reducible show AW _ _ _ _)); simp (maxSteps := 2000000) only [go_sem, reduceIte, reduceCtorEq, xA, xL, xD, xE, xM, xS, xB, Tryz.f77, hv, hw])
 | ((with_reducible refine hK _ ?_); clear hK K))
  all_goals ((have e := DY (n := n) (f := f) (k := k) (o := o) (by unfold Md; rw [hv]; rw [hw]; rfl); rw [e.1, <- e.2.1, <- e.2.2]; (repeat' (first | exact rfl | (with_reducible refine And.intro ?_ ?_))); done))
theorem SN (n : Nat) (f : Nat -> aF) (k : Nat) (o : Nat -> bT) (hn : n <= 9223372036854775807) (hf : ∀ i, i < n -> (f i).Ok) (hk : k <= 9223372036854775807) (ho : ∀ i, i < k -> (o i).f.Ok) : au Tryz.prog 77 [.one (.lst 9 n (bq f)), .one (.lst 16 k (fu o))] (.tup [.one (.lst 9 (Dc n f k o) (bq (Xo n f k o))), .one (.g (.int .i64 (ML n f k o))), .one (.g (.int .i64 (CZ n f k o)))]) := by
  cases hv : gM n f with
  | false => exact Qx n f k o hn hf hk ho hv
  | true => cases hw : fO k o with
    | false => exact T9 n f k o hn hf hk ho hv hw
    | true => exact Vo n f k o hn hf hk ho hv hw
end Go.Proofs.YtmnejmpjmniiiaaGreatDoor
set_option maxRecDepth 100000
set_option maxHeartbeats 4000000
namespace Go.Proofs.YtmnejmpjmniiiaaGreatDoor
open Go.RowKit Go.Sea
open Nat renaming reduceAdd -> xA, reduceLT -> xL, reduceLeDiff -> xD, reduceEqDiff -> xE, reduceMul -> xM, reduceSub -> xS, reduceBEq -> xB
theorem Gp : aM Tryz.prog 105 = true := by kernel_rfl
theorem Ba : aM Tryz.prog 108 = true := by kernel_rfl
theorem yX : aM Tryz.prog 69 = true := by kernel_rfl
theorem Ms : aM Tryz.prog 72 = true := by kernel_rfl
attribute [go_sem] Gp Ba yX Ms
theorem K6 (k : Nat) : ((k : Int) - 1).toNat = k - 1 := by omega
def aO (S : Nat -> aK) (m i k : Nat) : Prop := (0 < k -> (S i).a (k - 1) < (S i).a k) /\ (S i).a k < (S i).nu /\ eT S m ((S i).a k) < m
def rO (S : Nat -> aK) (m i : Nat) : Prop := tX (S i).nu = true /\ (0 < i -> (S (i - 1)).nu < (S i).nu) /\ ∀ k, k < (S i).q -> aO S m i k
theorem Zq {S : Nat -> aK} {m : Nat} (h : ∀ i, i < m -> 0 < i -> (S (i - 1)).nu < (S i).nu) : ∀ j i, i < j -> j < m -> (S i).nu < (S j).nu
  | 0, i, g, _ => by omega
  | j + 1, i, g, hj => by
    have h1 := h (j + 1) hj (by omega)
    rw [Nat.add_sub_cancel] at h1
    rcases (by omega : i = j \/ i < j) with rfl | g
    · exact h1
    · have := Zq h j i g (by omega); omega
theorem UO {S : Nat -> aK} {m t : Nat} {y : Int} (ht : t < m) (h : (S t).nu = y) : eT S m y < m := by
  rcases Nat.lt_or_ge (eT S m y) m with g | g
  · exact g
  · have := rR (b := fun i => decide ((S i).nu = y)) m t (by unfold eT at g; omega)
    simp only [decide_eq_false_iff_not] at this
    exact absurd h this
theorem aan {S : Nat -> aK} {m : Nat} : (m <= 200 /\ ∀ i, i < m -> rO S m i) ↔ (m <= 200 /\ ∀ i, i < m -> Nq S i) := by
  refine ⟨fun ⟨hm, h⟩ => ⟨hm, fun i hi => ?_⟩, fun ⟨hm, h⟩ => ⟨hm, fun i hi => ?_⟩⟩
  · have up := Zq fun i hi => (h i hi).2.1
    obtain ⟨h1, h2, h3⟩ := h i hi
    refine ⟨h1, ?_, decide_eq_true fun k hk h0 => (h3 k hk).1 h0, decide_eq_true fun k hk => Ei.2 ?_⟩
    · have hp : 1 <= (S i).nu := (of_decide_eq_true h1).1
      unfold Kc
      split
      · omega
      · exact h2 (by omega)
    · obtain ⟨_, h5, h6⟩ := h3 k hk
      have e := pE h6
      refine ⟨_, ?_, e⟩
      rcases Nat.lt_or_ge (eT S m ((S i).a k)) i with g | g
      · exact g
      · exfalso
        rcases (by omega : eT S m ((S i).a k) = i \/ i < eT S m ((S i).a k)) with g | g
        · rw [g] at e; omega
        · have := up _ i g h6; omega
  · have hv : vsB S m = true := decide_eq_true ⟨hm, h⟩
    obtain ⟨h1, h2, h3, h4⟩ := h i hi
    refine ⟨h1, fun h0 => ?_, fun k hk => ⟨fun h0 => of_decide_eq_true h3 k hk h0, ?_, ?_⟩⟩
    · unfold Kc at h2; rw [if_neg (by omega)] at h2; exact h2
    · obtain ⟨t, ht, e⟩ := CF hv hi hk
      have := vL hv ht hi; omega
    · obtain ⟨t, ht, e⟩ := CF hv hi hk
      exact UO (by omega) e
theorem aiW {S : Nat -> aK} {m : Nat} (h : (m : Int) > 200) : false = vsB S m := (decide_eq_false fun g => by have := g.1; omega).symm
theorem ahC {S : Nat -> aK} {m i : Nat} (hi : i < m) (h : ¬ rO S m i) : false = vsB S m := (decide_eq_false fun g => h ((aan.2 g).2 i hi)).symm
theorem ai2 {S : Nat -> aK} {m i : Nat} (hi : (i : Int) < m) (h : tX (S i).nu = false \/ ((i : Int) > 0 /\ (S i).nu <= (S (i - 1)).nu)) : false = vsB S m := ahC (i := i) (by omega) fun g => by
  rcases h with h | h
  · exact Bool.noConfusion (h.symm.trans g.1)
  · have := g.2.1 (by omega); omega
theorem aiF {S : Nat -> aK} {m i k : Nat} (hi : (i : Int) < m) (hk : (k : Int) < (S i).q) (h : (((k : Int) > 0 /\ (S i).a k <= (S i).a (k - 1)) \/ (S i).a k >= (S i).nu) \/ Cj S m ((S i).a k) < 0) : false = vsB S m := ahC (i := i) (by omega) fun g => by
  obtain ⟨g1, g2, g3⟩ := g.2.2 k (by omega)
  rcases h with (h | h) | h
  · have := g1 (by omega); omega
  · omega
  · unfold Cj at h; rw [if_pos g3] at h; omega
theorem ai0 {S : Nat -> aK} {m i : Nat} (hm : (m : Int) <= 200) (hi : (m : Int) <= i) (h : ∀ i', i' < i -> rO S m i') : true = vsB S m := (decide_eq_true (aan.1 ⟨by omega, fun j hj => h j (by omega)⟩)).symm
theorem ahV {S : Nat -> aK} {m i k : Nat} (h1 : 0 < k -> (S i).a (k - 1) < (S i).a k) (h2 : (S i).a k < (S i).nu) (h3 : 0 <= Cj S m ((S i).a k)) : aO S m i k := ⟨h1, h2, by
  unfold Cj at h3
  split at h3
  · assumption
  · omega⟩
theorem ah4 {S : Nat -> aK} {m i k : Nat} (h1 : tX (S i).nu = true) (h2 : 0 < i -> (S (i - 1)).nu < (S i).nu) (hk : ((S i).q : Int) <= k) (h3 : ∀ k', k' < k -> aO S m i k') : rO S m i := ⟨h1, h2, fun k' h => h3 k' (by omega)⟩
theorem afL {S : Nat -> aK} {m q j : Nat} {a : Nat -> Int} (hj : (j : Int) < q) (h : Cj S m (a j) < 0 \/ ((j : Int) > 0 /\ a j <= a (j - 1))) : false = fK S m q a := (decide_eq_false fun g => by
  obtain ⟨g1, g2⟩ := g j (by omega)
  rcases h with h | h
  · unfold Cj at h; rw [if_pos g1] at h; omega
  · unfold lsA at g2; rw [if_neg (by omega)] at g2; omega).symm
theorem agZ {S : Nat -> aK} {m j : Nat} {a : Nat -> Int} (hv : vsB S m = true) (h1 : 0 <= Cj S m (a j)) (h2 : 0 < j -> a (j - 1) < a j) : qK S m a j := by
  have g : eT S m (a j) < m := by
    unfold Cj at h1
    split at h1
    · assumption
    · omega
  refine ⟨g, ?_⟩
  unfold lsA
  split
  · have h3 := ((of_decide_eq_true hv).2 _ g).1
    have h4 : 1 <= (S (eT S m (a j))).nu := (of_decide_eq_true h3).1
    rw [pE g] at h4; omega
  · exact h2 (by omega)
theorem ahL {S : Nat -> aK} {m q j : Nat} {a : Nat -> Int} (hj : (q : Int) <= j) (h : ∀ i, i < j -> qK S m a i) : true = fK S m q a := (decide_eq_true fun i hi => h i (by omega)).symm
theorem agd (o p : bT) : (o.id != p.id || nE o && nE p && o.kd != p.kd) = !nR o p := by
  unfold nR
  by_cases h1 : o.id = p.id <;> by_cases h2 : o.kd = p.kd <;> cases nE o <;> cases nE p <;> simp [h1, h2]
theorem ac3 {x : bF} (h : Fb x) : 1 = cB x := by unfold cB; rw [if_pos h]
theorem aiB {x : bF} (h : (gM x.n x.f = false \/ vsB x.S x.m = false) \/ (x.mo : Int) ≠ x.m) : 1 = cB x := ac3 (by
  rcases h with (h | h) | h
  · exact Or.inr (Or.inl h)
  · exact Or.inl h
  · exact Or.inr (Or.inr (Or.inl (by omega))))
theorem aea (x : Int) : au Tryz.prog 105 [.one (.g (.int .i64 x))] (.t (.one (.g (.bool (tX x))))) := by
  refine ah Tryz.func105 rfl (by rw [Tryz.ntmps105]; simp) ?_
  simp only [Tryz.ntmps105, zM, PT.tv, ak, Nat.zero_add, Nat.reduceAdd]
  repeat' (first
 | ((with_reducible show AW _ _ _ _); first
 | (with_reducible first | refine aS (fun K hK => ?_) | refine aT ?_)
 | (first
 | (with_reducible first | refine aP 0 [0] ?_ | refine aP 1 [0] ?_)))
 | (with_reducible refine aA ?_)
 | ((fail_if_success (with_reducible show AW _ _ _ _)); simp (maxSteps := 2000000) only [go_sem, reduceIte, reduceCtorEq, xA, xL, xD, xE, xM, xS, xB, Tryz.f105])
 | ((with_reducible refine hK _ ?_); clear hK K))
  all_goals ((unfold tX; (try refine Bool.eq_iff_iff.2 ?_); (simp only [Bool.and_eq_true, Bool.or_eq_true, Bool.not_eq_true', decide_eq_true_eq, decide_eq_false_iff_not, bne_iff_ne, beq_iff_eq, ne_eq, ge_iff_le, gt_iff_lt, cond_eq_ite, iff_self, eq_self]; done)))
theorem aaS (a : Nat -> Int) : au Tryz.prog 133 [.one (.lst 1 0 (bG a))] (.t (.one (.g (.bool (true))))) := by
  refine ah Tryz.func133 rfl (by rw [Tryz.ntmps133]; simp) ?_
  simp only [Tryz.ntmps133, zM, PT.tv, ak, Nat.zero_add, Nat.reduceAdd]
  repeat' (first
 | ((with_reducible show AW _ _ _ _); first
 | (with_reducible first | refine aS (fun K hK => ?_) | refine aI ?_ | refine aX ?_ | refine aT ?_ | refine aC ?_ | refine aB ?_)
 | (first
 | (with_reducible first | refine aP 0 [0] ?_ | refine aP 1 [0] ?_ | refine aP 3 [0] ?_ | refine aP 4 [0,3] ?_)
 | (with_reducible refine aP 9 [] ?_))
 | ((with_reducible show AW _ (Code.loop _) _ _); first
 | ((with_reducible refine aL (c := (Code.seq (Code.seq (Code.region 4 _ _) _) _)) (ι := Nat) [0] (fun i => [(3, iA .i64 (i : Int))]) (fun i => []) (fun i => i <= 0) (fun i => 0 - i) 0 ?lg4 ?l14 ?l24 ?li4 ?lr4); (case' lg4 => rintro i _); (case' li4 => try (trivial)); (case' lr4 => rintro i hi KR hR4; simp only [bf, bN, hset, lk, if_true, if_false, xE, reduceIte, zN]))))
 | (with_reducible refine aA ?_)
 | ((with_reducible show aY _ _ _ _ _ _); first
 | ((with_reducible refine aH ?_ ?_) <;> (intro hc; (try simp only [zB, zC, reduceCtorEq] at hc); ((try (exfalso; omega))); (try (exfalso; contradiction)))))
 | ((with_reducible refine Told.mk ?_); simp only [go_sem, reduceIte, reduceCtorEq, xA, xL, xD, xE, xM, xS, xB, bG] <;> ((((try simp (disch := omega) only [aJ, Int.natCast_add, Int.cast_ofNat_Int, and_true, true_and, and_self]); (repeat' (exact True.intro )); done))))
 | ((fail_if_success (with_reducible show AW _ _ _ _)); simp (maxSteps := 2000000) only [go_sem, reduceIte, reduceCtorEq, xA, xL, xD, xE, xM, xS, xB, Tryz.f133, bG])
 | ((with_reducible refine hK _ ?_); clear hK K)
 | (with_reducible apply_assumption -exfalso only [*]))
theorem JJ (S : Nat -> aK) (m : Nat) (hm : m <= 9223372036854775807) (hq : ∀ i, i < m -> (S i).q <= 9223372036854775807) : au Tryz.prog 69 [.one (.lst 2 m (fA S))] (.t (.one (.g (.bool (vsB S m))))) := by
  have mk0 : True := trivial
  have mk1 : True := trivial
  have mk2 : True := trivial
  refine ah Tryz.func69 rfl (by rw [Tryz.ntmps69]; simp) ?_
  simp only [Tryz.ntmps69, zM, PT.tv, ak, Nat.zero_add, Nat.reduceAdd]
  repeat' (first
 | ((with_reducible show AW _ _ _ _); first
 | (with_reducible first | refine aS (fun K hK => ?_) | refine aI ?_ | refine aX ?_ | refine aT ?_ | refine aC ?_ | refine aB ?_)
 | (first
 | (with_reducible first | refine aP 0 [0] ?_ | refine aP 1 [0] ?_ | refine aP 2 [] ?_ | refine aP 3 [0] ?_ | refine aP 4 [0,3] ?_ | refine aP 5 [0,3] ?_ | refine aP 6 [0,3] ?_)
 | ((with_reducible refine aR (c := Code.region 7 _ true) [0,3,4] ?_); (with_reducible refine aD ?_ ?_ ?_ ?_); (focus kernel_rfl); (focus kernel_rfl); (focus kernel_rfl))
 | (with_reducible first | refine aP 8 [] ?_ | refine aP 9 [0,3] ?_ | refine aP 10 [0,3,5] ?_ | refine aP 11 [0,3,5] ?_ | refine aP 12 [0,3,5] ?_ | refine aP 13 [0,3,5,6] ?_ | refine aP 14 [] ?_ | refine aP 15 [] ?_))
 | ((with_reducible show AW _ (Code.loop _) _ _); first
 | ((with_reducible refine aL (c := (Code.seq (Code.seq (Code.region 4 _ _) _) _)) (ι := Nat) [0] (fun i => [(3, iA .i64 (i : Int))]) (fun i => []) (fun i => i <= m /\ (∀ i', i' < i -> rO S m i')) (fun i => m - i) 0 ?lg4 ?l14 ?l24 ?li4 ?lr4); (case' lg4 => rintro i _); (case' li4 => try (exact ⟨Nat.zero_le _, fun i hi => absurd hi (Nat.not_lt_zero _)⟩)); (case' lr4 => rintro i ⟨hi, hai⟩ KR hR4; simp only [bf, bN, hset, lk, if_true, if_false, xE, reduceIte, zN, bJ, bI, K6]))
 | ((with_reducible refine aL (c := (Code.seq (Code.seq (Code.region 10 _ _) _) _)) (ι := Nat) [0,3] (fun k => [(5, iA .i64 (k : Int))]) (fun k => []) (fun k => k <= (S i).q /\ (∀ k', k' < k -> aO S m i k')) (fun k => (S i).q - k) 0 ?lg10 ?l110 ?l210 ?li10 ?lr10); (case' lg10 => rintro k _); (case' li10 => try (exact ⟨Nat.zero_le _, fun i hi => absurd hi (Nat.not_lt_zero _)⟩)); (case' lr10 => rintro k ⟨hj, haj⟩ KR hR10; simp only [bf, bN, hset, lk, if_true, if_false, xE, reduceIte, zN, bJ, bI, K6]))))
 | ((first | (with_reducible refine And.intro ?_ ?_) | (with_reducible refine Need.mk ?_)); focus (first | exact True.intro | omega | (intro _; (with_reducible assumption)) | (intros; (repeat' (first | omega | (with_reducible refine And.intro ?_ ?_))); done) | (simp (disch := omega) only [Bool.and_eq_true, Bool.or_eq_true, decide_eq_true_eq, bne_iff_ne, ne_eq] at *; omega) | (simp; done) | (simp; omega) | (simp +contextual; done) | (intro hq; have hq2 := hq; simp only [Bool.and_eq_true, Bool.or_eq_true, Bool.not_eq_true', Bool.not_not, Bool.not_eq_false', decide_eq_true_eq, decide_eq_false_iff_not] at hq2; (repeat' (first | exact hq | (with_reducible refine And.intro ?_ ?_) | omega)); done)))
 | (with_reducible refine aA ?_)
 | ((with_reducible show aY _ _ _ _ _ _); first
 | ((with_reducible refine aH ?_ ?_) <;> (intro hc; (try simp only [zB, zC, reduceCtorEq] at hc); ((try (exfalso; omega)); (try (clear mk0; have hm2 : (m : Int) <= 200 := hc)); (try (clear mk1; have hq2 := hq i (by omega))); (try (clear mk2; have hn1 := hc.1; have hn2 : 0 < i -> (S (i - 1)).nu < (S i).nu := fun g => by have := hc.2; omega))); (try (exfalso; contradiction)))))
 | ((with_reducible refine And.intro ?_ ?_); focus ((with_reducible show fB _ _ _ = true); kernel_rfl))
 | ((with_reducible show aN _ _ _ _ _ _ _ _ _ _); first
 | (refine aj (k := 105) Gp (aea (S i).nu) ?_ ?_))
 | ((with_reducible show bK _ _ _ _ _ _ _ _ _ _); first
 | (refine aQ (k := 32) kG (fun hg => xG S m hm hq ((S i).a k)) ?_ ?_))
 | ((with_reducible refine hR4 _ (i + 1) ?_); (try clear hR4 KR))
 | ((with_reducible refine hR10 _ (k + 1) ?_); (try clear hR10 KR))
 | ((with_reducible refine Told.mk ?_); simp only [go_sem, reduceIte, reduceCtorEq, xA, xL, xD, xE, xM, xS, xB, bJ, bI, bG, K6] <;> (first | (((try simp (disch := omega) only [aJ, Int.natCast_add, Int.cast_ofNat_Int, and_true, true_and, and_self]); (repeat' (first | omega | (with_reducible refine And.intro ?_ ?_) | ((exact all_succ (by assumption) (ah4 hn1 hn2 (by omega) haj))))); done)) | (((try simp (disch := omega) only [aJ, Int.natCast_add, Int.cast_ofNat_Int, and_true, true_and, and_self]); (repeat' (first | omega | (with_reducible refine And.intro ?_ ?_) | ((exact all_succ (by assumption) (ahV (fun g => by omega) (by omega) (by omega)))))); done))))
 | ((fail_if_success (with_reducible show AW _ _ _ _)); simp (maxSteps := 2000000) only [go_sem, reduceIte, reduceCtorEq, xA, xL, xD, xE, xM, xS, xB, Tryz.f69, bJ, bI, bG, K6])
 | ((fail_if_success (with_reducible show AW _ _ _ _)); simp (disch := omega) only [aJ, dG, dH])
 | ((with_reducible refine hK _ ?_); clear hK K)
 | (with_reducible apply_assumption -exfalso only [*]))
  all_goals (first | exact aiW hc | exact ai2 (by assumption) hc | exact aiF (by assumption) (by assumption) hc | exact ai0 (by assumption) (by assumption) hai)
theorem U8 (o : bT) (ho : o.f.Ok) : au Tryz.prog 108 [.agg [.g (.int .i64 (o.kd)), .g (.int .i64 (o.id)), .g (.int .i64 (o.f.id)), .g (.int .i64 (o.f.kd)), .g (.int .i64 (o.f.x)), .g (.int .i64 (o.f.y)), .g (.int .i64 (o.f.r)), .lst 2 o.f.n (bX o.f.P), .g (.int .i64 (o.f.d)), .g (.int .i64 (o.f.s)), .lst 6 o.f.m (bX o.f.S), .g (.int .i64 (o.x)), .g (.int .i64 (o.y)), .g (.int .i64 (o.r)), .g (.int .i64 (o.d)), .g (.int .i64 (o.s))]] (.t (.one (.g (.bool (nE o))))) := by
  refine ah Tryz.func108 rfl (by rw [Tryz.ntmps108]; simp) ?_
  simp only [Tryz.ntmps108, zM, PT.tv, ak, Nat.zero_add, Nat.reduceAdd]
  repeat' (first
 | ((with_reducible show AW _ _ _ _); first
 | (with_reducible first | refine aS (fun K hK => ?_) | refine aT ?_)
 | (first
 | (with_reducible first | refine aP 0 [0] ?_ | refine aP 1 [1] ?_)))
 | (((with_reducible refine And.intro ?_ ?_)); focus ((simp; done)))
 | (with_reducible refine aA ?_)
 | ((fail_if_success (with_reducible show AW _ _ _ _)); simp (maxSteps := 2000000) only [go_sem, reduceIte, reduceCtorEq, xA, xL, xD, xE, xM, xS, xB, Tryz.f108])
 | ((with_reducible refine hK _ ?_); clear hK K))
  all_goals ((unfold nE; (try refine Bool.eq_iff_iff.2 ?_); (simp only [Bool.and_eq_true, Bool.or_eq_true, Bool.not_eq_true', decide_eq_true_eq, decide_eq_false_iff_not, bne_iff_ne, beq_iff_eq, ne_eq, ge_iff_le, gt_iff_lt, cond_eq_ite, iff_self, eq_self]; omega)))
theorem ada (o p : bT) (ho : o.f.Ok) (hp : p.f.Ok) : au Tryz.prog 72 [.agg [.g (.int .i64 (o.kd)), .g (.int .i64 (o.id)), .g (.int .i64 (o.f.id)), .g (.int .i64 (o.f.kd)), .g (.int .i64 (o.f.x)), .g (.int .i64 (o.f.y)), .g (.int .i64 (o.f.r)), .lst 2 o.f.n (bX o.f.P), .g (.int .i64 (o.f.d)), .g (.int .i64 (o.f.s)), .lst 6 o.f.m (bX o.f.S), .g (.int .i64 (o.x)), .g (.int .i64 (o.y)), .g (.int .i64 (o.r)), .g (.int .i64 (o.d)), .g (.int .i64 (o.s))], .agg [.g (.int .i64 (p.kd)), .g (.int .i64 (p.id)), .g (.int .i64 (p.f.id)), .g (.int .i64 (p.f.kd)), .g (.int .i64 (p.f.x)), .g (.int .i64 (p.f.y)), .g (.int .i64 (p.f.r)), .lst 2 p.f.n (bX p.f.P), .g (.int .i64 (p.f.d)), .g (.int .i64 (p.f.s)), .lst 6 p.f.m (bX p.f.S), .g (.int .i64 (p.x)), .g (.int .i64 (p.y)), .g (.int .i64 (p.r)), .g (.int .i64 (p.d)), .g (.int .i64 (p.s))]] (.t (.one (.g (.bool (!nR o p))))) := by
  refine ah Tryz.func72 rfl (by rw [Tryz.ntmps72]; simp) ?_
  simp only [Tryz.ntmps72, zM, PT.tv, ak, Nat.zero_add, Nat.reduceAdd]
  repeat' (first
 | ((with_reducible show AW _ _ _ _); first
 | (with_reducible first | refine aS (fun K hK => ?_) | refine aT ?_)
 | (first
 | (with_reducible first | refine aP 0 [0,1] ?_ | refine aP 1 [2,3] ?_ | refine aP 2 [2,3,5] ?_ | refine aP 3 [2,3,5,6] ?_)))
 | ((first | (with_reducible refine And.intro ?_ ?_) | (with_reducible refine Need.mk ?_)); focus (first | exact True.intro | (simp; done) | (simp +contextual; done)))
 | (with_reducible refine aA ?_)
 | ((with_reducible show aN _ _ _ _ _ _ _ _ _ _); first
 | (refine aj (k := 108) Ba (U8 o ho) ?_ ?_)
 | (refine aj (k := 108) Ba (U8 p hp) ?_ ?_))
 | ((fail_if_success (with_reducible show AW _ _ _ _)); simp (maxSteps := 2000000) only [go_sem, reduceIte, reduceCtorEq, xA, xL, xD, xE, xM, xS, xB, Tryz.f72])
 | ((with_reducible refine hK _ ?_); clear hK K))
  all_goals (exact agd o p)
theorem acL (k : Nat) (o : Nat -> bT) (l : Nat) (p : Nat -> bT) (hk : k <= 9223372036854775807) (ho : ∀ i, i < k -> (o i).f.Ok) (hl : l <= 9223372036854775807) (hp : ∀ i, i < l -> (p i).f.Ok) (hv : fO k o = true) (hw : fO l p = true) : au Tryz.prog 40 [.one (.lst 16 k (fu o)), .one (.lst 16 l (fu p))] (.tup [.one (.g (.int .i64 (mR k o l p))), .one (.g (.int .i64 (vF k o l p))), .one (.g (.int .i64 (0)))]) := by
  refine ah Tryz.func40 rfl (by rw [Tryz.ntmps40]; simp) ?_
  simp only [Tryz.ntmps40, zM, PT.tv, ak, Nat.zero_add, Nat.reduceAdd]
  repeat' (first
 | ((with_reducible show AW _ _ _ _); first
 | (with_reducible first | refine aS (fun K hK => ?_) | refine aI ?_ | refine aX ?_ | refine aT ?_ | refine aC ?_ | refine aB ?_)
 | (first
 | (with_reducible first | refine aP 0 [0,1] ?_ | refine aP 1 [0,1] ?_ | refine aP 2 [0,1,7] ?_ | refine aP 3 [0,1,7,8] ?_ | refine aP 5 [0,1] ?_ | refine aP 6 [0,1,9] ?_ | refine aP 7 [0,1,9] ?_ | refine aP 8 [0,1,9] ?_ | refine aP 9 [0,1,9,10] ?_ | refine aP 10 [0,1,9,10] ?_)
 | ((with_reducible refine aR (c := Code.region 11 _ true) [0,1,9,10] ?_); (with_reducible refine aD ?_ ?_ ?_ ?_); (focus kernel_rfl); (focus kernel_rfl); (focus kernel_rfl))
 | (with_reducible first | refine aP 12 [0,1,9,10,11] ?_ | refine aP 13 [9,10] ?_ | refine aP 14 [] ?_))
 | ((with_reducible show AW _ (Code.loop _) _ _); first
 | ((with_reducible refine aL (c := (Code.seq (Code.seq (Code.region 6 _ _) _) _)) (ι := Nat) [0,1] (fun i => [(9, iA .i64 (i : Int))]) (fun i => []) (fun i => i <= k /\ (∀ i', i' < i -> ∀ j, j < l -> nR (o i') (p j) = false)) (fun i => k - i) 0 ?lg6 ?l16 ?l26 ?li6 ?lr6); (case' lg6 => rintro i _); (case' li6 => try (exact ⟨Nat.zero_le _, fun i hi => absurd hi (Nat.not_lt_zero _)⟩)); (case' lr6 => rintro i ⟨hi, hai⟩ KR hR6; simp only [bf, bN, hset, lk, if_true, if_false, xE, reduceIte, zN, hv, hw]))
 | ((with_reducible refine aL (c := (Code.seq (Code.seq (Code.region 9 _ _) _) _)) (ι := Nat) [0,1,9] (fun j => [(10, iA .i64 (j : Int))]) (fun j => []) (fun j => j <= l /\ (∀ j', j' < j -> nR (o i) (p j') = false)) (fun j => l - j) 0 ?lg9 ?l19 ?l29 ?li9 ?lr9); (case' lg9 => rintro j _); (case' li9 => try (exact ⟨Nat.zero_le _, fun i hi => absurd hi (Nat.not_lt_zero _)⟩)); (case' lr9 => rintro j ⟨hj, haj⟩ KR hR9; simp only [bf, bN, hset, lk, if_true, if_false, xE, reduceIte, zN, hv, hw]))))
 | ((first | (with_reducible refine And.intro ?_ ?_) | (with_reducible refine Need.mk ?_)); focus (first | exact True.intro | omega))
 | (with_reducible refine aA ?_)
 | ((with_reducible show aY _ _ _ _ _ _); first
 | ((with_reducible refine aH ?_ ?_) <;> (intro hc; (try simp only [zB, zC, reduceCtorEq] at hc); ((try (exfalso; omega))); (try (exfalso; contradiction)))))
 | ((with_reducible refine And.intro ?_ ?_); focus ((with_reducible show fB _ _ _ = true); kernel_rfl))
 | ((with_reducible show aN _ _ _ _ _ _ _ _ _ _); first
 | (refine aj (k := 70) nZ (nC k o hk ho) ?_ ?_)
 | (refine aj (k := 70) nZ (nC l p hl hp) ?_ ?_))
 | ((with_reducible show dA _ _ _ _ _ _ _ _ _ _ _ _ _); first
 | (refine aV (k := 72) Ms (ada (o i) (p j) (ho i (by omega)) (hp j (by omega))) ?_ ?_))
 | ((with_reducible refine hR6 _ (i + 1) ?_); (try clear hR6 KR))
 | ((with_reducible refine hR9 _ (j + 1) ?_); (try clear hR9 KR))
 | ((with_reducible refine Told.mk ?_); simp only [go_sem, reduceIte, reduceCtorEq, xA, xL, xD, xE, xM, xS, xB, hv, hw] <;> ((((try simp (disch := omega) only [aJ, Int.natCast_add, Int.cast_ofNat_Int, and_true, true_and, and_self]); (repeat' (first | omega | (with_reducible refine And.intro ?_ ?_) | (exact all_succ (by assumption) (by assumption)) | ((exact all_succ (by assumption) (fun t ht => haj t (by omega)))))); done))))
 | ((fail_if_success (with_reducible show AW _ _ _ _)); simp (maxSteps := 2000000) only [go_sem, reduceIte, reduceCtorEq, xA, xL, xD, xE, xM, xS, xB, Tryz.f40, hv, hw])
 | ((with_reducible refine hK _ ?_); clear hK K)
 | (with_reducible apply_assumption -exfalso only [*]))
  all_goals first
    | (have e := aaj (k := k) (l := l) (by omega) hai (by omega) hc haj; exact e)
    | (have e := ZE (k := k) (l := l) (p := p) (by omega) hai; exact e)
    | skip
theorem kR (x : bF) (hx : x.Ok) : au Tryz.prog 38 [.one (.lst 9 x.n (bq x.f)), .one (.lst 2 x.m (fA x.S)), .one (.lst 1 x.mo (iJ x.O))] (.t (.one (.g (.int .i64 (cB x))))) := by
  have hxn := hx.n
  have hxm := hx.m
  have hxo := hx.mo
  have mk0 : True := trivial
  have mk1 : True := trivial
  have mk2 : True := trivial
  refine ah Tryz.func38 rfl (by rw [Tryz.ntmps38]; simp) ?_
  simp only [Tryz.ntmps38, zM, PT.tv, ak, Nat.zero_add, Nat.reduceAdd]
  repeat' (first
 | ((with_reducible show AW _ _ _ _); first
 | (with_reducible first | refine aS (fun K hK => ?_) | refine aI ?_ | refine aX ?_ | refine aT ?_ | refine aC ?_ | refine aB ?_)
 | (first
 | (with_reducible first | refine aP 0 [0,1,2] ?_ | refine aP 1 [0,1,2] ?_ | refine aP 2 [] ?_ | refine aP 3 [0,1,2] ?_ | refine aP 4 [1,2,7] ?_ | refine aP 5 [1,2,7,8] ?_ | refine aP 6 [1,2,7,8] ?_ | refine aP 7 [1,2,7,8] ?_ | refine aP 8 [] ?_ | refine aP 9 [1,2,7,8] ?_ | refine aP 10 [1,7] ?_ | refine aP 11 [] ?_ | refine aP 12 [] ?_))
 | ((with_reducible show AW _ (Code.loop _) _ _); first
 | ((with_reducible refine aL (c := (Code.seq (Code.seq (Code.region 5 _ _) _) _)) (ι := Nat) [1,2] (fun i => [(7, iA .i64 ((x.n : Int) + (O7 x.O i : Int))), (8, iA .i64 (i : Int))]) (fun i => []) (fun i => i <= x.mo /\ (∀ i', i' < i -> fO (x.O i').k (x.O i').o = true)) (fun i => x.mo - i) 0 ?lg5 ?l15 ?l25 ?li5 ?lr5); (case' lg5 => rintro i _); (case' li5 => try (exact ⟨Nat.zero_le _, fun i hi => absurd hi (Nat.not_lt_zero _)⟩)); (case' lr5 => rintro i ⟨hi, hai⟩ KR hR5; simp only [bf, bN, hset, lk, if_true, if_false, xE, reduceIte, zN, bJ, bI, dD]))))
 | ((first | (with_reducible refine And.intro ?_ ?_) | (with_reducible refine Need.mk ?_)); focus (first | exact True.intro | omega | (intro _; (with_reducible assumption)) | (simp; done)))
 | (with_reducible refine aA ?_)
 | ((with_reducible show aY _ _ _ _ _ _); first
 | ((with_reducible refine aH ?_ ?_) <;> (intro hc; (try simp only [zB, zC, reduceCtorEq] at hc); ((try (exfalso; omega)); (try (clear mk0; have hmo : (x.mo : Int) = x.m := hc.2; have hv := hc.1.2; have hfe := hc.1.1; have hm200 := (of_decide_eq_true hv).1; have hfn := (of_decide_eq_true hfe).1)); (try (clear mk1; have hsm := KV hai; have hxk := hx.k i (by omega))); (try (clear mk2; have ho1 := (of_decide_eq_true (show fO (x.O i).k (x.O i).o = true from hc)).1))); (try (exfalso; contradiction)))))
 | ((with_reducible show aN _ _ _ _ _ _ _ _ _ _); first
 | (refine aj (k := 68) uM (vP x.n x.f hx.n hx.f) ?_ ?_)
 | (refine aj (k := 70) nZ (nC (x.O i).k (x.O i).o (hx.k i (by omega)) (hx.o i (by omega))) ?_ ?_))
 | ((with_reducible show bK _ _ _ _ _ _ _ _ _ _); first
 | (refine aQ (k := 69) yX (fun hg => JJ x.S x.m hx.m hx.q) ?_ ?_))
 | ((with_reducible refine hR5 _ (i + 1) ?_); (try clear hR5 KR))
 | ((with_reducible refine Told.mk ?_); simp only [go_sem, reduceIte, reduceCtorEq, xA, xL, xD, xE, xM, xS, xB, bJ, bI, dD] <;> ((((try simp (disch := omega) only [aJ, Int.natCast_add, Int.cast_ofNat_Int, and_true, true_and, and_self]); (repeat' (first | omega | rfl | (with_reducible refine And.intro ?_ ?_) | (exact all_succ (by assumption) (by assumption)) | ((rw [Vj]; omega)))); done))))
 | ((fail_if_success (with_reducible show AW _ _ _ _)); simp (maxSteps := 2000000) only [go_sem, reduceIte, reduceCtorEq, xA, xL, xD, xE, xM, xS, xB, Tryz.f38, bJ, bI, dD])
 | ((fail_if_success (with_reducible show AW _ _ _ _)); simp (disch := omega) only [aJ, dG, dH])
 | ((with_reducible refine hK _ ?_); clear hK K)
 | (with_reducible apply_assumption -exfalso only [*]))
  all_goals (first | exact aiB hc | exact ac3 (Or.inr (Or.inr (Or.inr ⟨i, by omega, hc⟩))) | (have e := ail (x := x) hv ⟨hfe, hmo⟩ (by omega) hi hai; have e2 := e.2; subst e2; first | exact ahb e.1 hc | exact aiw e.1 hc))
theorem abZ (S : Nat -> aK) (m : Nat) (hm : m <= 9223372036854775807) (hq : ∀ i, i < m -> (S i).q <= 9223372036854775807) (hv : vsB S m = true) (q : Nat) (a : Nat -> Int) (hqq : q <= 9223372036854775807) : au Tryz.prog 42 [.one (.lst 2 m (fA S)), .one (.lst 1 q (bG a))] (.t (.one (.g (.bool (fK S m q a))))) := by
  refine ah Tryz.func42 rfl (by rw [Tryz.ntmps42]; simp) ?_
  simp only [Tryz.ntmps42, zM, PT.tv, ak, Nat.zero_add, Nat.reduceAdd]
  repeat' (first
 | ((with_reducible show AW _ _ _ _); first
 | (with_reducible first | refine aS (fun K hK => ?_) | refine aI ?_ | refine aX ?_ | refine aT ?_ | refine aC ?_ | refine aB ?_)
 | (first
 | (with_reducible first | refine aP 0 [0,1] ?_ | refine aP 1 [0,1] ?_ | refine aP 2 [0,1,5] ?_ | refine aP 3 [0,1,5] ?_)
 | ((with_reducible refine aR (c := Code.region 4 _ true) [0,1,5] ?_); (with_reducible refine aD ?_ ?_ ?_ ?_); (focus kernel_rfl); (focus kernel_rfl); (focus kernel_rfl))
 | (with_reducible first | refine aP 5 [] ?_ | refine aP 6 [] ?_))
 | ((with_reducible show AW _ (Code.loop _) _ _); first
 | ((with_reducible refine aL (c := (Code.seq (Code.seq (Code.region 2 _ _) _) _)) (ι := Nat) [0,1] (fun j => [(5, iA .i64 (j : Int))]) (fun j => []) (fun j => j <= q /\ (∀ j', j' < j -> qK S m a j')) (fun j => q - j) 0 ?lg2 ?l12 ?l22 ?li2 ?lr2); (case' lg2 => rintro j _); (case' li2 => try (exact ⟨Nat.zero_le _, fun i hi => absurd hi (Nat.not_lt_zero _)⟩)); (case' lr2 => rintro j ⟨hj, haj⟩ KR hR2; simp only [bf, bN, hset, lk, if_true, if_false, xE, reduceIte, zN, bJ, bI, K6]))))
 | ((first | (with_reducible refine And.intro ?_ ?_) | (with_reducible refine Need.mk ?_)); focus (first | exact True.intro | omega | (intros; (repeat' (first | omega | (with_reducible refine And.intro ?_ ?_))); done) | (simp; done) | (simp; omega)))
 | (with_reducible refine aA ?_)
 | ((with_reducible show aY _ _ _ _ _ _); first
 | ((with_reducible refine aH ?_ ?_) <;> (intro hc; (try simp only [zB, zC, reduceCtorEq] at hc); ((try (exfalso; omega))); (try (exfalso; contradiction)))))
 | ((with_reducible refine And.intro ?_ ?_); focus ((with_reducible show fB _ _ _ = true); kernel_rfl))
 | ((with_reducible show dA _ _ _ _ _ _ _ _ _ _ _ _ _); first
 | (refine aV (k := 32) kG (xG S m hm hq (a j)) ?_ ?_))
 | ((with_reducible refine hR2 _ (j + 1) ?_); (try clear hR2 KR))
 | ((with_reducible refine Told.mk ?_); simp only [go_sem, reduceIte, reduceCtorEq, xA, xL, xD, xE, xM, xS, xB, bJ, bI, bG, K6] <;> ((((try simp (disch := omega) only [aJ, Int.natCast_add, Int.cast_ofNat_Int, and_true, true_and, and_self]); (repeat' (first | omega | (with_reducible refine And.intro ?_ ?_) | ((exact all_succ (by assumption) (agZ hv (by omega) (fun g => by omega)))))); done))))
 | ((fail_if_success (with_reducible show AW _ _ _ _)); simp (maxSteps := 2000000) only [go_sem, reduceIte, reduceCtorEq, xA, xL, xD, xE, xM, xS, xB, Tryz.f42, bJ, bI, bG, K6])
 | ((fail_if_success (with_reducible show AW _ _ _ _)); simp (disch := omega) only [aJ, dG, dH])
 | ((with_reducible refine hK _ ?_); clear hK K)
 | (with_reducible apply_assumption -exfalso only [*]))
  all_goals (first | exact afL (by assumption) hc | exact ahL (by assumption) haj)
end Go.Proofs.YtmnejmpjmniiiaaGreatDoor
namespace Go.Proofs.YtmnejmpjmniiiaaGreatDoor
open Go.RowKit Go.Sea
open Nat renaming reduceAdd -> xA, reduceLT -> xL, reduceLeDiff -> xD, reduceEqDiff -> xE, reduceMul -> xM, reduceSub -> xS, reduceBEq -> xB
def Vt (x : bF) (l : List (Nat × Nat)) : List Int := l.flatMap fun p => [Ck x p 0, Ck x p 1, Ck x p 2, Ck x p 3]
theorem vG (x : bF) : ∀ l : List (Nat × Nat), (Vt x l).length = l.length * 4
  | [] => rfl
  | a :: l => by
    have := vG x l
    show ([_, _, _, _] ++ Vt x l).length = _
    rw [List.length_append, this]; simp; omega
theorem U6 (x : bF) : ∀ (l : List (Nat × Nat)) (i o : Nat), i < l.length -> o < 4 -> zL (Vt x l) (i * 4 + o) = Ck x (l.getD i (0, 0)) o
  | [], i, o, h, _ => by simp at h
  | a :: l, 0, o, _, ho => by
    rcases (by omega : o = 0 \/ o = 1 \/ o = 2 \/ o = 3) with rfl | rfl | rfl | rfl <;> rfl
  | a :: l, i + 1, o, hi, ho => by
    have ih := U6 x l i o (by simpa using hi) ho
    rw [show (i + 1) * 4 + o = (i * 4 + o) + 4 by omega]
    exact ih
theorem LU (zs : List Int) (a b c d : Int) (i : Nat) : List.map (CV.bW i) (dL zs ++ [.iv (.g (.int .i64 a)), .iv (.g (.int .i64 b)), .iv (.g (.int .i64 c)), .iv (.g (.int .i64 d))]) = dL (zs ++ [a, b, c, d]) := by
  have e : dL zs ++ [.iv (.g (.int .i64 a)), .iv (.g (.int .i64 b)), .iv (.g (.int .i64 c)), .iv (.g (.int .i64 d))] = dL (zs ++ [a, b, c, d]) := by unfold dL; simp
  rw [e]; exact aZ _ i
theorem ac5 {x : bF} (hx : x.Ok) (q : Nat) (a : Nat -> Int) : GL x q a <= 300 /\ ∀ i, i < GL x q a -> (pW x q a i).Ok := by
  by_cases h : K7 x q a = 0
  · obtain ⟨h1, h2, h3⟩ := afd h
    rw [h3]; exact XH hx h1 h2
  · rw [aiT h]; exact ⟨Nat.zero_le _, fun i hi => absurd hi (Nat.not_lt_zero i)⟩
end Go.Proofs.YtmnejmpjmniiiaaGreatDoor
