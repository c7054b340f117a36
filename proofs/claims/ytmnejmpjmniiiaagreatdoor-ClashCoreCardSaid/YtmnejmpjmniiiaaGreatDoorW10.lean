/- Part 10 of 16: contracts of functions and plain laws for the root text. No condition. -/
import Derived.Test.YtmnejmpjmniiiaaGreatDoorW01
import Derived.Test.YtmnejmpjmniiiaaGreatDoorW02
import Derived.Test.YtmnejmpjmniiiaaGreatDoorW03
import Derived.Test.YtmnejmpjmniiiaaGreatDoorW04
import Derived.Test.YtmnejmpjmniiiaaGreatDoorW05
import Derived.Test.YtmnejmpjmniiiaaGreatDoorW06
import Derived.Test.YtmnejmpjmniiiaaGreatDoorW07
import Derived.Test.YtmnejmpjmniiiaaGreatDoorW08
import Derived.Test.YtmnejmpjmniiiaaGreatDoorW09
import Derived.Test.YtmnejmpjmniiiaaGreatDoorRows
import Derived.WalkKit
import Derived.ProofKit
import Derived.Lib.SmallJoins
import Derived.Lib.LaidTab
import Derived.MakeChecks
import Derived.Deep.Strs
import Derived.Deep.SlicePairs
import Derived.LaidMore
import Derived.Lib.AppendZeros
import Derived.Laws.Tables
import Derived.Laws.IdiomCopy
import Derived.Laws.AppendOwn
import Derived.Shelf.Spec.TrailingZeros
import Derived.Ground.Names7Prog
import Derived.Test.YtmnejmpjmniiiaaGreatDoorProg
set_option linter.unusedVariables false
set_option linter.unusedSimpArgs false
set_option maxRecDepth 100000
set_option maxHeartbeats 4000000
namespace Go.Proofs.YtmnejmpjmniiiaaGreatDoor
open Go.RowKit Go.Sea
open Nat renaming reduceAdd → xA, reduceLT → xL, reduceLeDiff → xD, reduceEqDiff → xE, reduceMul → xM, reduceSub → xS, reduceBEq → xB
theorem fnok_123 : fnOk Tryz.prog 123 = true := by kernel_rfl
theorem fnok_124 : fnOk Tryz.prog 124 = true := by kernel_rfl
theorem fnok_125 : fnOk Tryz.prog 125 = true := by kernel_rfl
theorem fnok_148 : fnOk Tryz.prog 148 = true := by kernel_rfl
theorem fnok_60 : fnOk Tryz.prog 60 = true := by kernel_rfl
theorem ty_102 : tyD Tryz.prog 102 = some (false, 1) := by kernel_rfl
theorem ty_23 : tyD Tryz.prog 23 = some (false, 1) := by kernel_rfl
attribute [go_sem] fnok_123 fnok_124 fnok_125 fnok_60 ty_102 ty_23
theorem fdn_z (k : Nat) (d : Nat → Int) (hk : k = 0) : CallsP Tryz.prog 123 [.one (.lst 1 k (intI d))] (.t (.one (.g (.bool (true))))) := by
  refine CallsP_of Tryz.func123 rfl (by rw [Tryz.ntmps123]; simp) ?_
  simp only [Tryz.ntmps123, zM, PT.tv, argEnv, Nat.zero_add, Nat.reduceAdd]
  repeat' (first
 | ((with_reducible show AW _ _ _ _); first
 | (with_reducible first | refine aS (fun K hK => ?_) | refine aT ?_)
 | (first
 | (with_reducible first | refine aP 0 [0] ?_ | refine aP 1 [0] ?_)))
 | ((first | (with_reducible refine And.intro ?_ ?_) | (with_reducible refine Need.mk ?_)); focus (first | (intro _; (with_reducible assumption)) | (simp; omega) | (simp +contextual; done)))
 | (with_reducible refine retK_n ?_)
 | ((with_reducible show callGN _ _ _ _ _ _ _ _ _ _); first
 | (refine callGN_q (k := 85) fnok_85 (fun hg => fris_p k d (by omega)) ?_ ?_))
 | ((fail_if_success (with_reducible show AW _ _ _ _)); simp (maxSteps := 2000000) only [go_sem, reduceIte, reduceCtorEq, xA, xL, xD, xE, xM, xS, xB, Tryz.f123, intI])
 | ((fail_if_success (with_reducible show AW _ _ _ _)); simp (disch := omega) only [seaWrap, seaDiv, seaMod])
 | ((with_reducible refine hK _ ?_); clear hK K))
  all_goals (subst hk; simp [risB]; done)
theorem fdn_0 : CallsP Tryz.prog 123 [.one (.g (.slice none 0 0))] (.t (.one (.g (.bool (true))))) := (fdn_z 0 (fun _ => 0) rfl).eqv ⟨by unfold PT.eqv IV.eqv; trivial, trivial⟩ (by rfl)
theorem pfld_p (o : OpS) (ho : o.f.Ok) : CallsP Tryz.prog 103 [.agg [.g (.int .i64 (o.kd)), .g (.int .i64 (o.id)), .g (.int .i64 (o.f.id)), .g (.int .i64 (o.f.kd)), .g (.int .i64 (o.f.x)), .g (.int .i64 (o.f.y)), .g (.int .i64 (o.f.r)), .lst 2 o.f.n (ptI o.f.P), .g (.int .i64 (o.f.d)), .g (.int .i64 (o.f.s)), .lst 6 o.f.m (ptI o.f.S), .g (.int .i64 (o.x)), .g (.int .i64 (o.y)), .g (.int .i64 (o.r)), .g (.int .i64 (o.d)), .g (.int .i64 (o.s))]] (.t (.one (.g (.bool (fldB o))))) := by
  refine CallsP_of Tryz.func103 rfl (by rw [Tryz.ntmps103]; simp) ?_
  simp only [Tryz.ntmps103, zM, PT.tv, argEnv, Nat.zero_add, Nat.reduceAdd]
  repeat' (first
 | ((with_reducible show AW _ _ _ _); first
 | (with_reducible first | refine aS (fun K hK => ?_) | refine aT ?_)
 | (first
 | (with_reducible first | refine aP 0 [0] ?_ | refine aP 1 [1] ?_)))
 | (with_reducible refine retK_n ?_)
 | ((fail_if_success (with_reducible show AW _ _ _ _)); simp (maxSteps := 2000000) only [go_sem, reduceIte, reduceCtorEq, xA, xL, xD, xE, xM, xS, xB, Tryz.f103])
 | ((with_reducible refine hK _ ?_); clear hK K))
  all_goals ((unfold fldB; (try refine Bool.eq_iff_iff.2 ?_); (simp only [Bool.and_eq_true, Bool.or_eq_true, Bool.not_eq_true', decide_eq_true_eq, decide_eq_false_iff_not, bne_iff_ne, beq_iff_eq, ne_eq, ge_iff_le, gt_iff_lt, cond_eq_ite, iff_self, eq_self]; done)))
theorem frdy_f (S : Nat → StepS) (m : Nat) (hm : m ≤ 9223372036854775807) (hq : ∀ i, i < m → (S i).q ≤ 9223372036854775807) (hv : vsB S m = false) : CallsP Tryz.prog 95 [.one (.lst 2 m (stF S)), .one (.g (.slice none 0 0))] (.tup [.one (.g (.slice none 0 0)), .one (.g (.int .i64 (1)))]) := by
  refine CallsP_of Tryz.func95 rfl (by rw [Tryz.ntmps95]; simp) ?_
  simp only [Tryz.ntmps95, zM, PT.tv, argEnv, Nat.zero_add, Nat.reduceAdd]
  repeat' (first
 | ((with_reducible show callGN _ _ false _ _ _ _ _ _ _); (with_reducible refine callGN_sq (fun h => by cases h) (fun _ => ?_)))
 | ((with_reducible show callGK _ _ false _ _ _ _); (with_reducible refine callGK_s (fun h => by cases h) (fun _ => ?_)))
 | ((with_reducible show AW _ _ _ _); first
 | (with_reducible first | refine aS (fun K hK => ?_) | refine aT ?_ | refine aC ?_)
 | (first
 | (with_reducible first | refine aP 0 [0,1] ?_ | refine aP 1 [0,1] ?_ | refine aP 2 [] ?_)))
 | (((with_reducible refine Need.mk ?_)); focus (exact True.intro))
 | (with_reducible refine retK_n ?_)
 | ((with_reducible show condN _ _ _ _ _ _); first
 | ((with_reducible refine condN_t ?_ ?_) <;> (intro hc; (try simp only [zB, zC, reduceCtorEq] at hc); (try (exfalso; contradiction)))))
 | ((with_reducible show callN _ _ _ _ _ _ _ _ _ _); first
 | (refine callN_q (k := 60) fnok_60 (fval_p S m hm hq) ?_ ?_))
 | ((fail_if_success (with_reducible show AW _ _ _ _)); simp (maxSteps := 2000000) only [go_sem, reduceIte, reduceCtorEq, xA, xL, xD, xE, xM, xS, xB, Tryz.f95, hv])
 | ((with_reducible refine hK _ ?_); clear hK K))
theorem frdy_t (S : Nat → StepS) (m : Nat) (hm : m ≤ 9223372036854775807) (hq : ∀ i, i < m → (S i).q ≤ 9223372036854775807) (hv : vsB S m = true) : CallsP Tryz.prog 95 [.one (.lst 2 m (stF S)), .one (.g (.slice none 0 0))] (.tup [.one (.lst 1 (rdL S m).length (intI (zL (rdL S m)))), .one (.g (.int .i64 (0)))]) := by
  have mk0 : True := trivial
  have hm200 := (of_decide_eq_true hv).1
  refine CallsP_of Tryz.func95 rfl (by rw [Tryz.ntmps95]; simp) ?_
  simp only [Tryz.ntmps95, zM, PT.tv, argEnv, Nat.zero_add, Nat.reduceAdd]
  repeat' (first
 | ((with_reducible show callGK _ _ false _ _ _ _); (with_reducible refine callGK_s (fun h => by cases h) (fun _ => ?_)))
 | ((with_reducible show callGK _ _ true (Oper.mk _ (Op.call _) _ _ _ _) _ _ _); (with_reducible refine callGK_s (fun _ => ?_) (fun h => by cases h)))
 | ((with_reducible show callGN _ _ _ _ _ _ _ _ _ _); ((refine callGN_sq ?_ ?_) <;> (intro hc; (try rw [hc]); (try simp only [zB, zC, reduceCtorEq] at hc); (try (exfalso; contradiction)))))
 | ((with_reducible show AW _ _ _ _); first
 | (with_reducible first | refine aS (fun K hK => ?_) | refine aI ?_ | refine aX ?_ | refine aT ?_ | refine aC ?_ | refine aB ?_)
 | ((refine AW_rangeFuncH (k := 148) rfl Tryz.func148 rfl fnok_148 (by rw [Tryz.ntmps148]; simp) ?_ ?_ (fun l hlne A B hA hB => ?_)); (focus (simp (maxSteps := 2000000) only [go_sem, reduceIte, reduceCtorEq, xA, xL, xD, xE, xM, xS, xB, Tryz.f95, Tryz.f148, Tryz.f125, Tryz.f124, Tryz.f120, Tryz.f145, Tryz.f62, stF0, stF1, intI, hv, setO_nil, rdL_0, rowI_pur, rowI_snoc, rowI_len, maxLen]; try exact True.intro)); (focus (simp (maxSteps := 2000000) only [go_sem, reduceIte, reduceCtorEq, xA, xL, xD, xE, xM, xS, xB, Tryz.f95, Tryz.f148, Tryz.f125, Tryz.f124, Tryz.f120, Tryz.f145, Tryz.f62, stF0, stF1, intI, hv, setO_nil, rdL_0, rowI_pur, rowI_snoc, rowI_len, maxLen]; try exact True.intro)); simp only [Tryz.ntmps148, List.map_cons, List.map_nil, LV.tv, argEnv, yV, Nat.zero_add, Nat.reduceAdd]; clear hlne)
 | (with_reducible refine AW_eq (by assumption) ?_)
 | (first
 | (with_reducible first | refine aP 0 [0,1,2,7] ?_ | refine aP (ops := #[⟨some 6, _, _, _, _, _⟩, _, _, _, _, _, _, _]) 1 [0,1] ?_ | refine aP (ops := #[⟨some 9, _, _, _, _, _⟩]) 1 [0,2,6,7,8] ?_ | refine aP (ops := #[⟨some 6, _, _, _, _, _⟩, _]) 1 [0] ?_ | refine aP (ops := #[⟨some 5, _, _, _, _, _⟩, _]) 1 [2,3] ?_ | refine aP (ops := #[⟨some 3, _, _, _, _, _⟩, _, _]) 1 [0] ?_ | refine aP (ops := #[⟨some 6, _, _, _, _, _⟩]) 1 [1,2,7] ?_ | refine aP (ops := #[⟨some 7, _, _, _, _, _⟩, _, _]) 1 [0,1] ?_ | refine aP (ops := #[⟨some 10, _, _, _, _, _⟩, _, _, _]) 2 [0,2,6,7,8] ?_ | refine aP (ops := #[⟨some 7, _, _, _, _, _⟩, _, _]) 2 [0,3] ?_ | refine aP (ops := #[⟨some 5, _, _, _, _, _⟩]) 2 [2,7] ?_ | refine aP (ops := #[⟨some 10, _, _, _, _, _⟩]) 2 [0,7,8,9] ?_ | refine aP (ops := #[⟨some 14, _, _, _, _, _⟩, _, _, _, _, _, _]) 3 [0,1] ?_ | refine aP (ops := #[⟨some 12, _, _, _, _, _⟩, _, _, _, _, _, _, _, _, _, _, _, _, _, _, _, _, _]) 3 [0,2,5,6,7,8] ?_ | refine aP (ops := #[⟨some 10, _, _, _, _, _⟩]) 3 [3,7,8,9] ?_ | refine aP (ops := #[⟨some 8, _, _, _, _, _⟩, _, _, _, _]) 3 [2,5,7] ?_ | refine aP (ops := #[⟨some 11, _, _, _, _, _⟩, _, _]) 3 [0,7,8,9] ?_ | refine aP (ops := #[⟨some 30, _, _, _, _, _⟩, _]) 4 [0,2,6,7,8] ?_ | refine aP (ops := #[⟨some 12, _, _, _, _, _⟩, _]) 4 [2] ?_ | refine aP (ops := #[⟨some 13, _, _, _, _, _⟩, _, _, _]) 4 [0,6,7,8,9] ?_ | refine aP (ops := #[⟨some 4, _, _, _, _, _⟩]) 5 [] ?_ | refine aP (ops := #[⟨some 16, _, _, _, _, _⟩, _]) 7 [3] ?_ | refine aP (ops := #[⟨some 4, _, _, _, _, _⟩]) 7 [] ?_))
 | ((with_reducible show AW _ (Code.loop _) _ _); first
 | ((with_reducible refine aL (c := (Code.seq (Code.region 3 _ _) _)) (ι := Nat) [3,7,8] (fun z => [(9, iA .i64 (z : Int))]) (fun z => [(0, [.mi none 0 (setO [])])]) (fun z => z = 0) (fun z => 0) 0 ?lg3 ?l13 ?l23 ?li3 ?lr3); (case' lg3 => rintro z _); (case' li3 => try (exact rfl)); (case' lr3 => rintro z hz KR hR3; simp only [keepE, hupd, hset, lk, if_true, if_false, xE, reduceIte, zN, stF0, stF1, hv, setO_nil, rdL_0, rowI_pur, rowI_snoc, rowI_len, maxLen]))
 | ((with_reducible refine aL (c := (Code.seq (Code.region 1 _ _) _)) (ι := Nat) [0,2,6,7] (fun u => [(8, iA .i64 (u : Int))]) (fun u => [(3, [.slc 4 0 (rdL S u).length 1]), (4, rowI (rdL S u))]) (fun u => u ≤ m) (fun u => m - u) 0 ?lg1 ?l11 ?l21 ?li1 ?lr1); (case' lg1 => rintro u _); (case' li1 => try (omega)); (case' lr1 => rintro u hu KR hR1; simp only [keepE, hupd, hset, lk, if_true, if_false, xE, reduceIte, zN, stF0, stF1, hv, setO_nil, rdL_0, rowI_pur, rowI_snoc, rowI_len, maxLen]))
 | ((with_reducible refine aL (c := (Code.seq (Code.region 2 _ _) _)) (ι := Nat) [0,7,8] (fun v => [(9, iA .i64 (v : Int))]) (fun v => []) (fun v => v = 0) (fun v => 0) 0 ?lg2 ?l12 ?l22 ?li2 ?lr2); (case' lg2 => rintro v _); (case' li2 => try (exact rfl)); (case' lr2 => rintro v hv0 KR hR2; simp only [keepE, hupd, hset, lk, if_true, if_false, xE, reduceIte, zN, stF0, stF1, hv, setO_nil, rdL_0, rowI_pur, rowI_snoc, rowI_len, maxLen]))))
 | ((first | (with_reducible refine And.intro ?_ ?_) | (with_reducible refine Need.mk ?_)); focus (first | exact True.intro | omega))
 | (with_reducible refine retK_n ?_)
 | ((with_reducible show condN _ _ _ _ _ _); first
 | ((with_reducible refine condN_t ?_ ?_) <;> (intro hc; (try simp only [zB, zC, reduceCtorEq] at hc); ((try (clear mk0; have hle := rdL_le S u; have hmu : u < m := (by omega)))); (try (exfalso; contradiction)))))
 | ((with_reducible show callN _ _ _ _ _ _ _ _ _ _); first
 | (refine callN_q (k := 60) fnok_60 (fval_p S m hm hq) ?_ ?_)
 | (refine callN_q (k := 123) fnok_123 (fdn_0) ?_ ?_)
 | ((refine callN_i (k := 125) Tryz.func125 rfl fnok_125 (by rw [Tryz.ntmps125]; simp) ?_ ?_ (fun K hK => ?_)); (focus (exact True.intro)); (focus ((simp [lsF]; done))); simp only [Tryz.ntmps125, List.map_cons, List.map_nil, List.nil_append, List.cons_append, List.append_nil, LV.tv, argEnv, Nat.zero_add, Nat.reduceAdd])
 | ((refine callN_i (k := 124) Tryz.func124 rfl fnok_124 (by rw [Tryz.ntmps124]; simp) ?_ ?_ (fun K hK => ?_)); (focus (exact True.intro)); (focus ((simp [lsF]; done))); simp only [Tryz.ntmps124, List.map_cons, List.map_nil, List.nil_append, List.cons_append, List.append_nil, LV.tv, argEnv, Nat.zero_add, Nat.reduceAdd])
 | ((refine callN_i (k := 120) Tryz.func120 rfl fnok_120 (by rw [Tryz.ntmps120]; simp) ?_ ?_ (fun K hK => ?_)); (focus (exact True.intro)); (focus ((simp [lsF]; done))); simp only [Tryz.ntmps120, List.map_cons, List.map_nil, List.nil_append, List.cons_append, List.append_nil, LV.tv, argEnv, Nat.zero_add, Nat.reduceAdd])
 | ((refine callN_i (k := 145) Tryz.func145 rfl fnok_145 (by rw [Tryz.ntmps145]; simp) ?_ ?_ (fun K hK => ?_)); (focus (exact True.intro)); (focus ((simp [lsF]; done))); simp only [Tryz.ntmps145, List.map_cons, List.map_nil, List.nil_append, List.cons_append, List.append_nil, LV.tv, argEnv, Nat.zero_add, Nat.reduceAdd])
 | ((refine callN_i (k := 62) Tryz.func62 rfl fnok_62 (by rw [Tryz.ntmps62]; simp) ?_ ?_ (fun K hK => ?_)); (focus (exact True.intro)); (focus ((simp [lsF]; done))); simp only [Tryz.ntmps62, List.map_cons, List.map_nil, List.nil_append, List.cons_append, List.append_nil, LV.tv, argEnv, Nat.zero_add, Nat.reduceAdd]))
 | ((with_reducible refine hR1 _ (u + 1) ?_); (try clear hR1 KR))
 | ((with_reducible refine Told.mk ?_); simp only [go_sem, reduceIte, reduceCtorEq, xA, xL, xD, xE, xM, xS, xB, stF0, stF1, intI, hv, setO_nil, rdL_0, rowI_pur, rowI_snoc, rowI_len, maxLen] <;> (first | (((try simp (disch := omega) only [seaWrap, Int.natCast_add, Int.cast_ofNat_Int, and_true, true_and, and_self]); (repeat' (first | omega | rfl | (with_reducible refine And.intro ?_ ?_))); done)) | (((try simp (disch := omega) only [seaWrap, Int.natCast_add, Int.cast_ofNat_Int, and_true, true_and, and_self]); (repeat' (first | omega | (with_reducible refine And.intro ?_ ?_) | ((exact wkC_eq rfl (rowI_iv _))) | ((rw [rdL_t (by omega)]; exact wkC_eq rfl (rowI_iv _))) | ((rw [rdL_f (by omega)]; exact wkC_eq rfl (rowI_iv _))) | ((rw [rdL_t (by omega)]; simp only [List.length_append, List.length_cons, List.length_nil, Nat.zero_add]; done)) | ((rw [rdL_f (by omega)]; done)))); done))))
 | ((fail_if_success (with_reducible show AW _ _ _ _)); simp (maxSteps := 2000000) only [go_sem, reduceIte, reduceCtorEq, xA, xL, xD, xE, xM, xS, xB, Tryz.f95, Tryz.f148, Tryz.f125, Tryz.f124, Tryz.f120, Tryz.f145, Tryz.f62, stF0, stF1, intI, hv, setO_nil, rdL_0, rowI_pur, rowI_snoc, rowI_len, maxLen])
 | ((with_reducible show callN _ _ _ _ _ _ (.yld _) _ _ _); (refine callN_y (by simp only [lkL, if_true]; exact rfl) ?_ (by simp) ?_ ?_ (fun K hK => ?_)); (focus (exact True.intro)); (focus (simp [ltAll])); (focus ((simp [lsF]; done))); simp only [zipPut, gf, if_true, Nat.reduceAdd])
 | ((with_reducible refine hK _ ?_); clear hK K)
 | (with_reducible apply_assumption -exfalso only [*]))
  all_goals ((have e7 : u = m := (by omega); subst e7; exact ⟨fun c hc9 => (by have := rowI_iv _ c hc9; cases c <;> trivial), rfl, fun i o hi ho => row_zL _ i o hi ho⟩))
end Go.Proofs.YtmnejmpjmniiiaaGreatDoor
set_option maxRecDepth 100000
set_option maxHeartbeats 4000000
namespace Go.Proofs.YtmnejmpjmniiiaaGreatDoor
open Go.RowKit Go.Sea
open Nat renaming reduceAdd → xA, reduceLT → xL, reduceLeDiff → xD, reduceEqDiff → xE, reduceMul → xM, reduceSub → xS, reduceBEq → xB
theorem ar_24 : arD Tryz.prog 24 = none := by kernel_rfl
theorem fnok_102 : fnOk Tryz.prog 102 = true := by kernel_rfl
theorem fnok_103 : fnOk Tryz.prog 103 = true := by kernel_rfl
theorem fnok_95 : fnOk Tryz.prog 95 = true := by kernel_rfl
theorem fnok_97 : fnOk Tryz.prog 97 = true := by kernel_rfl
theorem le_24 : lenD Tryz.prog 24 = some true := by kernel_rfl
theorem sl_24 : slD Tryz.prog 24 = some (1, 24, 54) := by kernel_rfl
attribute [go_sem] ar_24 fnok_103 fnok_95 le_24 sl_24
theorem hit_t {x y : OpS} (h : x.id = y.id ∧ ((x.kd = y.kd ∨ fldB x = false) ∨ fldB y = false)) : hitB x y = true := decide_eq_true ⟨h.1, by rcases h.2 with (g | g) | g <;> simp [g]⟩
theorem hit_f {x y : OpS} (h : x.id ≠ y.id ∨ (x.kd ≠ y.kd ∧ fldB x = true) ∧ fldB y = true) : hitB x y = false := decide_eq_false (fun ⟨h1, h2⟩ => h.elim (fun g => g h1) (fun g => h2.elim (fun e => g.1.1 e) (fun e => e.elim (fun e => by rw [g.1.2] at e; cases e) (fun e => by rw [g.2] at e; cases e))))
def CmE (k : Nat) (o : Nat → OpS) (l : Nat) (p : Nat → OpS) : Int := if opsB k o = true ∧ opsB l p = true then 0 else 1
def CmX (k : Nat) (o : Nat → OpS) (l : Nat) (p : Nat → OpS) : Int := if opsB k o = true ∧ opsB l p = true then comX k o l p else 0
def CmY (k : Nat) (o : Nat → OpS) (l : Nat) (p : Nat → OpS) : Int := if opsB k o = true ∧ opsB l p = true then comY k o l p else 0
def badB (k : Nat) (o : Nat → OpS) : Bool := decide (∃ j, j < k ∧ opB (o j) = false)
theorem bad_t {k : Nat} {o : Nat → OpS} {j : Nat} (hj : (j : Int) < k) (h : opB (o j) = false) : true = badB k o := (decide_eq_true ⟨j, by omega, h⟩).symm
theorem bad_f {k : Nat} {o : Nat → OpS} {j : Nat} (hj : (k : Int) ≤ j) (h : ∀ i, i < j → opB (o i) = true) : false = badB k o := (decide_eq_false fun ⟨i, h1, h2⟩ => by rw [h i (by omega)] at h2; cases h2).symm
theorem ops_f1 {k : Nat} {o : Nat → OpS} (h : (k : Int) > 100 ∨ badB k o = true) : opsB k o = false := decide_eq_false fun g => by
  rcases h with h | h
  · omega
  · obtain ⟨j, h1, h2⟩ := of_decide_eq_true h; rw [g.2 j h1] at h2; cases h2
theorem ops_t1 {k : Nat} {o : Nat → OpS} (h : (k : Int) ≤ 100 ∧ badB k o = false) : opsB k o = true := decide_eq_true ⟨by omega, fun j hj => by
  cases e : opB (o j) with
  | true => rfl
  | false => exact absurd ⟨j, hj, e⟩ (of_decide_eq_false h.2)⟩
theorem smK_s (O : Nat → PtS) (i : Nat) : smK O (i + 1) = smK O i + (O i).k := rfl
theorem smK_le {O : Nat → PtS} : ∀ {i : Nat}, (∀ j, j < i → opsB (O j).k (O j).o = true) → smK O i ≤ 100 * i
  | 0, _ => Nat.le_refl _
  | i + 1, h => by
    have := smK_le (i := i) fun j hj => h j (by omega)
    have := (of_decide_eq_true (h i (by omega))).1
    rw [smK_s]; omega
theorem cv_1 {x : CaS} (h : badO x) : 1 = cvE x := by unfold cvE; rw [if_pos h]
theorem cv_v {x : CaS} (h : vsB x.S x.m = false) : 1 = cvE x := cv_1 (Or.inl h)
theorem cv_h {x : CaS} (h : ((0 : Int) ≠ 0 ∨ feaB x.n x.f = false) ∨ (x.mo : Int) ≠ x.m) : 1 = cvE x := cv_1 (h.elim (fun h => h.elim (fun h => absurd rfl h) (fun h => Or.inr (Or.inl h))) (fun h => Or.inr (Or.inr (Or.inl (by omega)))))
theorem cv_o {x : CaS} {i : Nat} (hi : (i : Int) < x.mo) (h : ((x.O i).k : Int) > 100 ∨ badB (x.O i).k (x.O i).o = true) : 1 = cvE x := cv_1 (Or.inr (Or.inr (Or.inr ⟨i, by omega, ops_f1 h⟩)))
theorem cv_g {x : CaS} (hv : vsB x.S x.m = true) (hf : feaB x.n x.f = true ∧ (x.mo : Int) = x.m) {i : Nat} (hi : (x.mo : Int) ≤ i) (hi2 : i ≤ x.mo) (h : ∀ j, j < i → opsB (x.O j).k (x.O j).o = true) : ¬ badO x ∧ i = x.mo := by
  refine ⟨?_, by omega⟩
  intro g
  rcases g with g | g | g | ⟨j, h1, h2⟩
  · rw [hv] at g; cases g
  · rw [hf.1] at g; cases g
  · omega
  · rw [h j (by omega)] at h2; cases h2
theorem cv_2 {x : CaS} (h0 : ¬ badO x) (h : (x.m : Int) > 10 ∨ (x.n : Int) + (smK x.O x.mo : Int) > 300) : 2 = cvE x := by unfold cvE; rw [if_neg h0, if_pos (by omega)]
theorem cv_0 {x : CaS} (h0 : ¬ badO x) (h : (x.m : Int) ≤ 10 ∧ (x.n : Int) + (smK x.O x.mo : Int) ≤ 300) : 0 = cvE x := by unfold cvE; rw [if_neg h0, if_neg (by omega)]
theorem comm_f (k : Nat) (o : Nat → OpS) (l : Nat) (p : Nat → OpS) (hk : k ≤ 9223372036854775807) (ho : ∀ i, i < k → (o i).f.Ok) (hl : l ≤ 9223372036854775807) (hp : ∀ i, i < l → (p i).f.Ok) (hv : opsB k o = false) : CallsP Tryz.prog 67 [.one (.lst 16 k (oprF o)), .one (.lst 16 l (oprF p))] (.tup [.one (.g (.int .i64 (CmX k o l p))), .one (.g (.int .i64 (CmY k o l p))), .one (.g (.int .i64 (CmE k o l p)))]) := by
  refine CallsP_of Tryz.func67 rfl (by rw [Tryz.ntmps67]; simp) ?_
  simp only [Tryz.ntmps67, zM, PT.tv, argEnv, Nat.zero_add, Nat.reduceAdd]
  repeat' (first
 | ((with_reducible show callGN _ _ false _ _ _ _ _ _ _); (with_reducible refine callGN_sq (fun h => by cases h) (fun _ => ?_)))
 | ((with_reducible show callGK _ _ false _ _ _ _); (with_reducible refine callGK_s (fun h => by cases h) (fun _ => ?_)))
 | ((with_reducible show AW _ _ _ _); first
 | (with_reducible first | refine aS (fun K hK => ?_) | refine aT ?_ | refine aC ?_)
 | (first
 | (with_reducible first | refine aP 0 [0,1] ?_ | refine aP 1 [0,1] ?_ | refine aP 2 [] ?_)))
 | ((first | (with_reducible refine And.intro ?_ ?_) | (with_reducible refine Need.mk ?_)); focus (exact True.intro))
 | (with_reducible refine retK_n ?_)
 | ((with_reducible show condN _ _ _ _ _ _); first
 | ((with_reducible refine condN_t ?_ ?_) <;> (intro hc; (try simp only [zB, zC, reduceCtorEq] at hc); (try (exfalso; contradiction)))))
 | ((with_reducible show callN _ _ _ _ _ _ _ _ _ _); (refine callN_q (k := 90) fnok_90 (pvalid_p k o hk ho) ?_ ?_))
 | ((fail_if_success (with_reducible show AW _ _ _ _)); simp (maxSteps := 2000000) only [go_sem, reduceIte, reduceCtorEq, xA, xL, xD, xE, xM, xS, xB, Tryz.f67, hv])
 | ((with_reducible refine hK _ ?_); clear hK K))
  all_goals ((unfold CmX CmY CmE; simp [hv]; done))
theorem comm_g (k : Nat) (o : Nat → OpS) (l : Nat) (p : Nat → OpS) (hk : k ≤ 9223372036854775807) (ho : ∀ i, i < k → (o i).f.Ok) (hl : l ≤ 9223372036854775807) (hp : ∀ i, i < l → (p i).f.Ok) (hv : opsB k o = true) (hw : opsB l p = false) : CallsP Tryz.prog 67 [.one (.lst 16 k (oprF o)), .one (.lst 16 l (oprF p))] (.tup [.one (.g (.int .i64 (CmX k o l p))), .one (.g (.int .i64 (CmY k o l p))), .one (.g (.int .i64 (CmE k o l p)))]) := by
  refine CallsP_of Tryz.func67 rfl (by rw [Tryz.ntmps67]; simp) ?_
  simp only [Tryz.ntmps67, zM, PT.tv, argEnv, Nat.zero_add, Nat.reduceAdd]
  repeat' (first
 | ((with_reducible show AW _ _ _ _); first
 | (with_reducible first | refine aS (fun K hK => ?_) | refine aT ?_ | refine aC ?_)
 | (first
 | (with_reducible first | refine aP 0 [0,1] ?_ | refine aP 1 [0,1] ?_ | refine aP 2 [] ?_)))
 | ((first | (with_reducible refine And.intro ?_ ?_) | (with_reducible refine Need.mk ?_)); focus (first | exact True.intro | (intro _; exact True.intro)))
 | (with_reducible refine retK_n ?_)
 | ((with_reducible show condN _ _ _ _ _ _); first
 | ((with_reducible refine condN_t ?_ ?_) <;> (intro hc; (try simp only [zB, zC, reduceCtorEq] at hc); (try (exfalso; contradiction)))))
 | ((with_reducible show callN _ _ _ _ _ _ _ _ _ _); (refine callN_q (k := 90) fnok_90 (pvalid_p k o hk ho) ?_ ?_))
 | ((with_reducible show callGN _ _ _ _ _ _ _ _ _ _); (refine callGN_q (k := 90) fnok_90 (fun hg => pvalid_p l p hl hp) ?_ ?_))
 | ((fail_if_success (with_reducible show AW _ _ _ _)); simp (maxSteps := 2000000) only [go_sem, reduceIte, reduceCtorEq, xA, xL, xD, xE, xM, xS, xB, Tryz.f67, hv, hw])
 | ((with_reducible refine hK _ ?_); clear hK K))
  all_goals ((unfold CmX CmY CmE; simp [hv, hw]; done))
theorem comm_t (k : Nat) (o : Nat → OpS) (l : Nat) (p : Nat → OpS) (hk : k ≤ 9223372036854775807) (ho : ∀ i, i < k → (o i).f.Ok) (hl : l ≤ 9223372036854775807) (hp : ∀ i, i < l → (p i).f.Ok) (hv : opsB k o = true) (hw : opsB l p = true) : CallsP Tryz.prog 67 [.one (.lst 16 k (oprF o)), .one (.lst 16 l (oprF p))] (.tup [.one (.g (.int .i64 (CmX k o l p))), .one (.g (.int .i64 (CmY k o l p))), .one (.g (.int .i64 (CmE k o l p)))]) := by
  have hk1 := (of_decide_eq_true hv).1
  have hl1 := (of_decide_eq_true hw).1
  refine CallsP_of Tryz.func67 rfl (by rw [Tryz.ntmps67]; simp) ?_
  simp only [Tryz.ntmps67, zM, PT.tv, argEnv, Nat.zero_add, Nat.reduceAdd]
  repeat' (first
 | ((with_reducible show AW _ _ _ _); first
 | (with_reducible first | refine aS (fun K hK => ?_) | refine aI ?_ | refine aX ?_ | refine aT ?_ | refine aC ?_ | refine aB ?_)
 | (first
 | (with_reducible first | refine aP (ops := #[⟨some 4, _, _, _, _, _⟩, _, _]) 0 [0,1] ?_ | refine aP (ops := #[⟨some 4, _, _, _, _, _⟩]) 0 [0,1] ?_ | refine aP (ops := #[⟨some 2, _, _, _, _, _⟩, _]) 0 [0,1] ?_ | refine aP (ops := #[⟨some 10, _, _, _, _, _⟩, _, _, _, _, _, _, _]) 1 [0,1] ?_ | refine aP (ops := #[⟨some 6, _, _, _, _, _⟩, _, _]) 1 [0,1] ?_ | refine aP (ops := #[⟨some 4, _, _, _, _, _⟩, _, _, _, _, _, _, _, _, _, _, _, _, _, _, _, _, _, _, _, _, _, _]) 1 [1,2] ?_ | refine aP (ops := #[⟨some 9, _, _, _, _, _⟩]) 2 [0,1,7,8] ?_ | refine aP (ops := #[⟨some 18, _, _, _, _, _⟩, _, _]) 3 [0,1] ?_ | refine aP (ops := #[⟨some 10, _, _, _, _, _⟩, _]) 3 [0,1,7,8] ?_ | refine aP (ops := #[⟨some 21, _, _, _, _, _⟩]) 4 [1,18,19,20] ?_ | refine aP (ops := #[⟨some 11, _, _, _, _, _⟩, _, _, _, _, _]) 4 [0,1,5,7,8] ?_ | refine aP (ops := #[⟨some 22, _, _, _, _, _⟩, _, _, _, _, _]) 5 [1,18,19,20] ?_ | refine aP (ops := #[⟨some 17, _, _, _, _, _⟩, _]) 5 [5] ?_ | refine aP (ops := #[⟨some 25, _, _, _, _, _⟩, _, _, _]) 6 [1,7,8,18,19,20] ?_ | refine aP (ops := #[⟨some 18, _, _, _, _, _⟩, _]) 6 [0,1,7,8] ?_ | refine aP (ops := #[⟨some 28, _, _, _, _, _⟩, _]) 7 [1,7,9,18,19,20] ?_ | refine aP (ops := #[⟨some 4, _, _, _, _, _⟩]) 7 [] ?_ | refine aP 8 [7,9] ?_ | refine aP 9 [1,18,19,20] ?_ | refine aP 10 [] ?_))
 | ((with_reducible show AW _ (Code.loop _) _ _); first
 | ((with_reducible refine aL (c := (Code.seq (Code.region 4 _ _) _)) (ι := Nat) [1,18,19] (fun i => [(20, iA .i64 (i : Int))]) (fun i => []) (fun i => i ≤ k ∧ (∀ i', i' < i → ∀ j, j < l → hitB (o i') (p j) = false)) (fun i => k - i) 0 ?lg4 ?l14 ?l24 ?li4 ?lr4); (case' lg4 => rintro i _); (case' li4 => try (exact ⟨Nat.zero_le _, fun i hi => absurd hi (Nat.not_lt_zero _)⟩)); (case' lr4 => rintro i ⟨hi, hai⟩ KR hR4; simp only [keepE, hupd, hset, lk, if_true, if_false, xE, reduceIte, zN, hv, hw]))
 | ((with_reducible refine aL (c := (Code.seq (Code.region 2 _ _) _)) (ι := Nat) [0,1,7] (fun j => [(8, iA .i64 (j : Int))]) (fun j => []) (fun j => j ≤ l ∧ (∀ j', j' < j → hitB (o i) (p j') = false)) (fun j => l - j) 0 ?lg2 ?l12 ?l22 ?li2 ?lr2); (case' lg2 => rintro j _); (case' li2 => try (exact ⟨Nat.zero_le _, fun i hi => absurd hi (Nat.not_lt_zero _)⟩)); (case' lr2 => rintro j ⟨hj, haj⟩ KR hR2; simp only [keepE, hupd, hset, lk, if_true, if_false, xE, reduceIte, zN, hv, hw]))))
 | ((first | (with_reducible refine And.intro ?_ ?_) | (with_reducible refine Need.mk ?_)); focus (first | exact True.intro | omega | (intro _; first | exact True.intro | (with_reducible assumption)) | (simp; omega) | (simp +contextual; done)))
 | (with_reducible refine retK_n ?_)
 | ((with_reducible show condN _ _ _ _ _ _); first
 | ((with_reducible refine condN_t ?_ ?_) <;> (intro hc; (try simp only [zB, zC, reduceCtorEq] at hc); (try (exfalso; contradiction)))))
 | ((with_reducible show callN _ _ _ _ _ _ _ _ _ _); first
 | (refine callN_q (k := 90) fnok_90 (pvalid_p k o hk ho) ?_ ?_)
 | ((refine callN_i (k := 101) Tryz.func101 rfl fnok_101 (by rw [Tryz.ntmps101]; simp) ?_ ?_ (fun K hK => ?_)); (focus (exact True.intro)); (focus ((simp [lsF]; done))); simp only [Tryz.ntmps101, List.map_cons, List.map_nil, List.nil_append, List.cons_append, List.append_nil, LV.tv, argEnv, Nat.zero_add, Nat.reduceAdd])
 | ((refine callN_ic (k := 102) Tryz.func102 rfl fnok_102 (by rw [Tryz.ntmps102]; simp) ?_ ?_ (fun K hK => ?_)); (focus (exact True.intro)); (focus ((simp [lsF]; done))); simp only [Tryz.ntmps102, List.map_cons, List.map_nil, List.nil_append, List.cons_append, List.append_nil, LV.tv, argEnv, Nat.zero_add, Nat.reduceAdd]))
 | ((with_reducible show callGN _ _ _ _ _ _ _ _ _ _); first
 | (refine callGN_q (k := 90) fnok_90 (fun hg => pvalid_p l p hl hp) ?_ ?_)
 | (refine callGN_q (k := 103) fnok_103 (fun hg => pfld_p (o i) (ho i (by omega))) ?_ ?_)
 | (refine callGN_q (k := 103) fnok_103 (fun hg => pfld_p (p j) (hp j (by omega))) ?_ ?_))
 | ((with_reducible refine hR4 _ (i + 1) ?_); (try clear hR4 KR))
 | ((with_reducible refine hR2 _ (j + 1) ?_); (try clear hR2 KR))
 | ((with_reducible refine Told.mk ?_); simp only [go_sem, reduceIte, reduceCtorEq, xA, xL, xD, xE, xM, xS, xB, hv, hw] <;> (first | (((try simp (disch := omega) only [seaWrap, Int.natCast_add, Int.cast_ofNat_Int, and_true, true_and, and_self]); (repeat' (first | omega | (with_reducible refine And.intro ?_ ?_) | ((exact all_succ (by assumption) (fun t ht => haj t (by omega)))))); done)) | (((try simp (disch := omega) only [seaWrap, Int.natCast_add, Int.cast_ofNat_Int, and_true, true_and, and_self]); (repeat' (first | omega | (with_reducible refine And.intro ?_ ?_) | ((exact all_succ (by assumption) (hit_f hc))))); done))))
 | ((fail_if_success (with_reducible show AW _ _ _ _)); simp (maxSteps := 2000000) only [go_sem, reduceIte, reduceCtorEq, xA, xL, xD, xE, xM, xS, xB, Tryz.f67, Tryz.f101, Tryz.f102, hv, hw])
 | ((with_reducible refine hK _ ?_); clear hK K)
 | (with_reducible apply_assumption -exfalso only [*]))
  all_goals first
    | (have e := com_h (k := k) (l := l) (by omega) hai (by omega) (hit_t (by assumption)) haj; unfold CmX CmY CmE; rw [if_pos ⟨hv, hw⟩, if_pos ⟨hv, hw⟩, if_pos ⟨hv, hw⟩]; exact ⟨e.1, e.2, rfl⟩)
    | (have e := com_n (k := k) (l := l) (p := p) (by omega) hai; unfold CmX CmY CmE; rw [if_pos ⟨hv, hw⟩, if_pos ⟨hv, hw⟩, if_pos ⟨hv, hw⟩]; exact ⟨e.1, e.2, rfl⟩)
    | skip
theorem comm_p (k : Nat) (o : Nat → OpS) (l : Nat) (p : Nat → OpS) (hk : k ≤ 9223372036854775807) (ho : ∀ i, i < k → (o i).f.Ok) (hl : l ≤ 9223372036854775807) (hp : ∀ i, i < l → (p i).f.Ok) : CallsP Tryz.prog 67 [.one (.lst 16 k (oprF o)), .one (.lst 16 l (oprF p))] (.tup [.one (.g (.int .i64 (CmX k o l p))), .one (.g (.int .i64 (CmY k o l p))), .one (.g (.int .i64 (CmE k o l p)))]) := by
  cases hv : opsB k o with
  | false => exact comm_f k o l p hk ho hl hp hv
  | true => cases hw : opsB l p with
    | false => exact comm_g k o l p hk ho hl hp hv hw
    | true => exact comm_t k o l p hk ho hl hp hv hw
theorem cbad_p (o : OpS) (ho : o.f.Ok) : CallsP Tryz.prog 97 [.agg [.g (.int .i64 (o.kd)), .g (.int .i64 (o.id)), .g (.int .i64 (o.f.id)), .g (.int .i64 (o.f.kd)), .g (.int .i64 (o.f.x)), .g (.int .i64 (o.f.y)), .g (.int .i64 (o.f.r)), .lst 2 o.f.n (ptI o.f.P), .g (.int .i64 (o.f.d)), .g (.int .i64 (o.f.s)), .lst 6 o.f.m (ptI o.f.S), .g (.int .i64 (o.x)), .g (.int .i64 (o.y)), .g (.int .i64 (o.r)), .g (.int .i64 (o.d)), .g (.int .i64 (o.s))]] (.t (.one (.g (.bool (!opB o))))) := by
  refine CallsP_of Tryz.func97 rfl (by rw [Tryz.ntmps97]; simp) ?_
  simp only [Tryz.ntmps97, zM, PT.tv, argEnv, Nat.zero_add, Nat.reduceAdd]
  repeat' (first
 | ((with_reducible show AW _ _ _ _); first
 | (with_reducible first | refine aS (fun K hK => ?_) | refine aT ?_)
 | (first
 | (with_reducible first | refine aP 0 [0] ?_ | refine aP 1 [1] ?_)))
 | (((with_reducible refine Need.mk ?_)); focus (exact True.intro))
 | (with_reducible refine retK_n ?_)
 | ((with_reducible show callN _ _ _ _ _ _ _ _ _ _); first
 | (refine callN_q (k := 98) fnok_98 (pv_p _ ho) ?_ ?_))
 | ((fail_if_success (with_reducible show AW _ _ _ _)); simp (maxSteps := 2000000) only [go_sem, reduceIte, reduceCtorEq, xA, xL, xD, xE, xM, xS, xB, Tryz.f97])
 | ((with_reducible refine hK _ ?_); clear hK K))
theorem ccon_p (k : Nat) (o : Nat → OpS) (hk : k ≤ 9223372036854775807) (ho : ∀ i, i < k → (o i).f.Ok) : CallsP Tryz.prog 96 [.one (.lst 16 k (oprF o)), .one (.g (.func (.func 97) #[] #[]))] (.t (.one (.g (.bool (badB k o))))) := by
  refine CallsP_of Tryz.func96 rfl (by rw [Tryz.ntmps96]; simp) ?_
  simp only [Tryz.ntmps96, zM, PT.tv, argEnv, Nat.zero_add, Nat.reduceAdd]
  repeat' (first
 | ((with_reducible show AW _ _ _ _); first
 | (with_reducible first | refine aS (fun K hK => ?_) | refine aI ?_ | refine aX ?_ | refine aT ?_ | refine aC ?_ | refine aB ?_)
 | (first
 | (with_reducible first | refine aP 0 [0,1] ?_ | refine aP (ops := #[⟨some 5, _, _, _, _, _⟩, _, _, _, _]) 1 [0,1] ?_ | refine aP (ops := #[⟨some 6, _, _, _, _, _⟩, _, _]) 1 [0,1] ?_ | refine aP 2 [0,1,7,8] ?_ | refine aP 3 [0,1,7,8] ?_ | refine aP 4 [0,1,5,7,8] ?_ | refine aP 5 [5] ?_ | refine aP 6 [0,1,7,8] ?_ | refine aP 7 [] ?_))
 | ((with_reducible show AW _ (Code.loop _) _ _); first
 | ((with_reducible refine aL (c := (Code.seq (Code.region 2 _ _) _)) (ι := Nat) [0,1,7] (fun j => [(8, iA .i64 (j : Int))]) (fun j => []) (fun j => j ≤ k ∧ (∀ j', j' < j → opB (o j') = true)) (fun j => k - j) 0 ?lg2 ?l12 ?l22 ?li2 ?lr2); (case' lg2 => rintro j _); (case' li2 => try (exact ⟨Nat.zero_le _, fun i hi => absurd hi (Nat.not_lt_zero _)⟩)); (case' lr2 => rintro j ⟨hj, haj⟩ KR hR2; simp only [keepE, hupd, hset, lk, if_true, if_false, xE, reduceIte, zN]))))
 | ((first | (with_reducible refine And.intro ?_ ?_) | (with_reducible refine Need.mk ?_)); focus (first | exact True.intro | omega))
 | (with_reducible refine retK_n ?_)
 | ((with_reducible show condN _ _ _ _ _ _); first
 | ((with_reducible refine condN_t ?_ ?_) <;> (intro hc; (try simp only [zB, zC, reduceCtorEq] at hc); (try (exfalso; contradiction)))))
 | ((with_reducible show callN _ _ _ _ _ _ _ _ _ _); first
 | (refine callN_q (k := 97) fnok_97 (cbad_p _ (ho _ (by omega))) ?_ ?_)
 | ((refine callN_i (k := 101) Tryz.func101 rfl fnok_101 (by rw [Tryz.ntmps101]; simp) ?_ ?_ (fun K hK => ?_)); (focus (exact True.intro)); (focus ((simp [lsF]; done))); simp only [Tryz.ntmps101, List.map_cons, List.map_nil, List.nil_append, List.cons_append, List.append_nil, LV.tv, argEnv, Nat.zero_add, Nat.reduceAdd]))
 | ((with_reducible refine hR2 _ (j + 1) ?_); (try clear hR2 KR))
 | ((with_reducible refine Told.mk ?_); simp only [go_sem, reduceIte, reduceCtorEq, xA, xL, xD, xE, xM, xS, xB] <;> ((((try simp (disch := omega) only [seaWrap, Int.natCast_add, Int.cast_ofNat_Int, and_true, true_and, and_self]); (repeat' (first | omega | (with_reducible refine And.intro ?_ ?_) | (exact all_succ (by assumption) (by assumption)) )); done))))
 | ((fail_if_success (with_reducible show AW _ _ _ _)); simp (maxSteps := 2000000) only [go_sem, reduceIte, reduceCtorEq, xA, xL, xD, xE, xM, xS, xB, Tryz.f96, Tryz.f101])
 | ((with_reducible refine hK _ ?_); clear hK K)
 | (with_reducible apply_assumption -exfalso only [*]))
  all_goals first
    | (refine Eq.trans ?_ (bad_t (by omega) (by assumption)); have h0 : (j : Int) ≥ 0 := (by omega); simp [h0]; done)
    | (refine Eq.trans ?_ (bad_f (by omega) haj); simp; done)
    | skip
theorem cval_f (x : CaS) (hx : x.Ok) (hv : vsB x.S x.m = false) : CallsP Tryz.prog 65 [.one (.lst 9 x.n (featF x.f)), .one (.lst 2 x.m (stF x.S)), .one (.lst 1 x.mo (ptF x.O))] (.t (.one (.g (.int .i64 (cvE x))))) := by
  refine CallsP_of Tryz.func65 rfl (by rw [Tryz.ntmps65]; simp) ?_
  simp only [Tryz.ntmps65, zM, PT.tv, argEnv, Nat.zero_add, Nat.reduceAdd]
  repeat' (first
 | ((with_reducible show AW _ _ _ _); first
 | (with_reducible first | refine aS (fun K hK => ?_) | refine aT ?_ | refine aC ?_)
 | (first
 | (with_reducible first | refine aP 0 [0,1,2] ?_ | refine aP 1 [0,1,2] ?_ | refine aP 2 [0,1,2,8] ?_ | refine aP 3 [] ?_)))
 | ((first | (with_reducible refine And.intro ?_ ?_) | (with_reducible refine Need.mk ?_)); focus (first | exact True.intro | (intro _; (with_reducible assumption)) | (simp; done)))
 | (with_reducible refine retK_n ?_)
 | ((with_reducible show condN _ _ _ _ _ _); first
 | ((with_reducible refine condN_t ?_ ?_) <;> (intro hc; (try simp only [zB, zC, reduceCtorEq] at hc); (try (exfalso; omega)))))
 | ((with_reducible show callN _ _ _ _ _ _ _ _ _ _); first
 | (refine callN_q (k := 95) fnok_95 (frdy_f x.S x.m hx.m hx.q hv) ?_ ?_))
 | ((with_reducible show callGN _ _ _ _ _ _ _ _ _ _); (refine callGN_q (k := 89) fnok_89 (fun hg => flist_p x.n x.f hx.n hx.f) ?_ ?_))
 | ((fail_if_success (with_reducible show AW _ _ _ _)); simp (maxSteps := 2000000) only [go_sem, reduceIte, reduceCtorEq, xA, xL, xD, xE, xM, xS, xB, Tryz.f65, stF0, stF1, ptF0])
 | ((with_reducible refine hK _ ?_); clear hK K))
  all_goals (exact cv_v hv)
theorem cval_t (x : CaS) (hx : x.Ok) (hv : vsB x.S x.m = true) : CallsP Tryz.prog 65 [.one (.lst 9 x.n (featF x.f)), .one (.lst 2 x.m (stF x.S)), .one (.lst 1 x.mo (ptF x.O))] (.t (.one (.g (.int .i64 (cvE x))))) := by
  have hxn := hx.n
  have hxm := hx.m
  have hxo := hx.mo
  have hm200 := (of_decide_eq_true hv).1
  have mk0 : True := trivial
  have mk1 : True := trivial
  refine CallsP_of Tryz.func65 rfl (by rw [Tryz.ntmps65]; simp) ?_
  simp only [Tryz.ntmps65, zM, PT.tv, argEnv, Nat.zero_add, Nat.reduceAdd]
  repeat' (first
 | ((with_reducible show AW _ _ _ _); first
 | (with_reducible first | refine aS (fun K hK => ?_) | refine aI ?_ | refine aX ?_ | refine aT ?_ | refine aC ?_ | refine aB ?_)
 | (first
 | (with_reducible first | refine aP 0 [0,1,2] ?_ | refine aP 1 [0,1,2] ?_ | refine aP 2 [0,1,2,8] ?_ | refine aP 3 [] ?_ | refine aP 4 [0,1,2] ?_ | refine aP 5 [1,2,9] ?_ | refine aP 6 [1,9,33,34,35] ?_ | refine aP 7 [1,9,33,34,35] ?_ | refine aP 8 [1,9,11,33,34,35] ?_ | refine aP 9 [] ?_ | refine aP 10 [1,9,11,33,34,35] ?_ | refine aP 11 [1,9,33,34,35] ?_ | refine aP 12 [1,9] ?_ | refine aP 13 [] ?_ | refine aP 14 [] ?_))
 | ((with_reducible show AW _ (Code.loop _) _ _); first
 | ((with_reducible refine aL (c := (Code.seq (Code.region 6 _ _) _)) (ι := Nat) [1,33,34] (fun i => [(9, iA .i64 ((x.n : Int) + (smK x.O i : Int))), (35, iA .i64 (i : Int))]) (fun i => []) (fun i => i ≤ x.mo ∧ (∀ i', i' < i → opsB (x.O i').k (x.O i').o = true)) (fun i => x.mo - i) 0 ?lg6 ?l16 ?l26 ?li6 ?lr6); (case' lg6 => rintro i _); (case' li6 => try (exact ⟨Nat.zero_le _, fun i hi => absurd hi (Nat.not_lt_zero _)⟩)); (case' lr6 => rintro i ⟨hi, hai⟩ KR hR6; simp only [keepE, hupd, hset, lk, if_true, if_false, xE, reduceIte, zN, stF0, stF1, ptF0]))))
 | ((first | (with_reducible refine And.intro ?_ ?_) | (with_reducible refine Need.mk ?_)); focus (first | exact True.intro | omega | (intro _; (with_reducible assumption)) | (simp; done)))
 | (with_reducible refine retK_n ?_)
 | ((with_reducible show condN _ _ _ _ _ _); first
 | ((with_reducible refine condN_t ?_ ?_) <;> (intro hc; (try simp only [zB, zC, reduceCtorEq] at hc); ((try (clear mk0; have hmo : (x.mo : Int) = x.m := hc.2; have hfe := hc.1.2; have hfn := (of_decide_eq_true hfe).1)); (try (clear mk1; have hsm := smK_le hai; have hxk := hx.k i (by omega)))); (try (exfalso; contradiction)))))
 | ((with_reducible show callN _ _ _ _ _ _ _ _ _ _); first
 | (refine callN_q (k := 95) fnok_95 (frdy_t x.S x.m hx.m hx.q hv) ?_ ?_))
 | ((with_reducible show callGN _ _ _ _ _ _ _ _ _ _); first
 | (refine callGN_q (k := 89) fnok_89 (fun hg => flist_p x.n x.f hx.n hx.f) ?_ ?_)
 | (refine callGN_q (k := 96) fnok_96 (fun hg => ccon_p (x.O i).k (x.O i).o (hx.k i (by omega)) (hx.o i (by omega))) ?_ ?_))
 | ((with_reducible refine hR6 _ (i + 1) ?_); (try clear hR6 KR))
 | ((with_reducible refine Told.mk ?_); simp only [go_sem, reduceIte, reduceCtorEq, xA, xL, xD, xE, xM, xS, xB, stF0, stF1, ptF0] <;> ((((try simp (disch := omega) only [seaWrap, Int.natCast_add, Int.cast_ofNat_Int, and_true, true_and, and_self]); (repeat' (first | omega | rfl | (with_reducible refine And.intro ?_ ?_) | ((exact all_succ (by assumption) (ops_t1 hc))) | ((rw [smK_s]; omega)))); done))))
 | ((fail_if_success (with_reducible show AW _ _ _ _)); simp (maxSteps := 2000000) only [go_sem, reduceIte, reduceCtorEq, xA, xL, xD, xE, xM, xS, xB, Tryz.f65, stF0, stF1, ptF0])
 | ((fail_if_success (with_reducible show AW _ _ _ _)); simp (disch := omega) only [seaWrap, seaDiv, seaMod])
 | ((with_reducible refine hK _ ?_); clear hK K)
 | (with_reducible apply_assumption -exfalso only [*]))
  all_goals first
    | exact cv_h hc
    | exact cv_o (by omega) hc
    | (have e := cv_g (x := x) hv ⟨hfe, hmo⟩ (by omega) hi hai; have e2 := e.2; subst e2; first | exact cv_2 e.1 hc | exact cv_0 e.1 hc)
    | skip
theorem cval_p (x : CaS) (hx : x.Ok) : CallsP Tryz.prog 65 [.one (.lst 9 x.n (featF x.f)), .one (.lst 2 x.m (stF x.S)), .one (.lst 1 x.mo (ptF x.O))] (.t (.one (.g (.int .i64 (cvE x))))) := by
  cases hv : vsB x.S x.m with
  | false => exact cval_f x hx hv
  | true => exact cval_t x hx hv
end Go.Proofs.YtmnejmpjmniiiaaGreatDoor
set_option maxRecDepth 100000
set_option maxHeartbeats 4000000
namespace Go.Proofs.YtmnejmpjmniiiaaGreatDoor
open Go.ChangeShapes Go.WideShapes Go.ChangeAt Go.RowKit Go.Joins Go.Deep Go.Sea
theorem rd_g {w : World} {Z : Nat → Prop} {v u : Value} (h : Rd w Z v (.g u)) : v = u := by cases h; rfl
abbrev Zw (w : World) : Nat → Prop := fun b => b < w.heap.size
section
variable {H : Type} {enc : TypeId × Value → H} {w : World} {base : Nat} {spare : Nat → Bool} {held : Bool} {r : Reach} {b0 : Nat} {v : Value} {d : DataW H} {p : List MemPlace}
theorem spot_none {a : Addr} {j : Nat} {x : Value} (h : w.cell? (a.add j) = some x) (h0 : j = 0 ∨ a.spot = none) : a.spot = none := by
  rcases h0 with rfl | h0
  · obtain ⟨ab, ao, sub⟩ := a
    cases sub with
    | none => rfl
    | some y =>
      exfalso
      simp [Addr.add, World.cell?] at h
      split at h <;> simp at h
  · exact h0
theorem rd_slice {t e : TypeId} (ht : Tryz.prog.underlying t = some (.slice e)) {E : Nat} (hE : Tryz.prog.cellsOf e = E) (h0 : 0 < E) {α : Type} [Inhabited α] (F : α → Nat → IV)
    (el : ∀ (n : Nat) (cs : List Value) (y : DataW H × List MemPlace), DataW.trod enc Tryz.prog w base spare held n e cs = some y → cs.length = E → ∃ z : α, ∀ (o : Nat) v, cs[o]? = some v → Rd w (Zw w) v (F z o))
    {c : Value} {n : Nat} {y : DataW H × List MemPlace} (h : DataW.trod enc Tryz.prog w base spare held n t [c] = some y) : ∃ (k : Nat) (Z : Nat → α), k ≤ 9223372036854775807 ∧ Rd w (Zw w) c (.lst E k fun i o => F (Z i) o) := by
  rcases open_slice ht h with ⟨e, _⟩ | ⟨a, len, cap, m, n', D, Pl, e, hb, hl, hm, hmm, _, hx⟩
  · simp at e; subst e
    exact ⟨0, fun _ => default, Nat.zero_le _, .nil _ _ _ _⟩
  · simp at e
    subst e
    rw [hE] at hx
    have hlm : len ≤ m := by rw [hmm]; split <;> omega
    have each : ∀ i, i < len → ∃ q : α × (Nat → Value), ∀ o, o < E → w.cell? (a.add (i * E + o)) = some (q.2 o) ∧ Rd w (Zw w) (q.2 o) (F q.1 o) := fun i hi => by
      obtain ⟨cs', h1, h2⟩ := hx i (by omega)
      obtain ⟨_, hlen, hcell⟩ := World.cells?_some h1
      obtain ⟨z, hz⟩ := el _ _ _ h2 hlen
      refine ⟨(z, fun o => cs'.getD o undef), fun o ho => ?_⟩
      have h3 := hcell o ho
      rw [add_add] at h3
      have h4 : cs'[o]? = some (cs'.getD o undef) := by simp [List.getD, show o < cs'.length by omega]
      rw [h4] at h3
      exact ⟨h3, hz o _ h4⟩
    obtain ⟨Q, hQ⟩ := choose_lt each
    refine ⟨len, fun i => (Q i).1, by unfold maxLen at hm; omega, ?_⟩
    rcases Nat.eq_zero_or_pos len with hz | hpos
    · subst hz; exact .nil _ _ _ _
    · have hs := spot_none (hQ 0 hpos 0 h0).1 (Or.inl (by omega))
      obtain ⟨ab, ao, sub⟩ := a
      simp only at hs
      subst hs
      have hlt : ab < w.heap.size := by
        have := World.block_lt_of_cell? w _ (hQ 0 hpos 0 h0).1
        rwa [Addr.add_lit] at this
      refine .lst ab ao len cap E _ (fun i o => (Q i).2 o) hlt hl hm (fun i o hi' ho => ?_) fun i o hi' ho => (hQ i hi' o ho).2
      have := (hQ i hi' o ho).1
      rw [Addr.add_lit] at this
      rw [Nat.add_assoc]; exact this
theorem cells3 : Tryz.prog.cellsOf 3 = 1 := by kernel_rfl
theorem int_cell {n : Nat} {cs : List Value} {y : DataW H × List MemPlace} (h : DataW.trod enc Tryz.prog w base spare held n 3 cs = some y) (hl : cs.length = 1) : ∃ z : Int, ∀ (o : Nat) v, cs[o]? = some v → Rd w (Zw w) v (.g (.int .i64 z)) := by
  obtain ⟨z, e, _, _⟩ := DataW.trod_int Tryz.underlying3 h
  subst e
  refine ⟨z, fun o v hv => ?_⟩
  rcases o with _ | o
  · simp at hv; subst hv; exact .g _ rfl
  · simp at hv
theorem open_ints' {c : Value} {n : Nat} {y : DataW H × List MemPlace} (h : DataW.trod enc Tryz.prog w base spare held n 27 [c] = some y) : ∃ (k : Nat) (s : Nat → Int), k ≤ 9223372036854775807 ∧ Rd w (Zw w) c (.lst 1 k (intI s)) :=
  rd_slice Tryz.underlying27 cells3 (by omega) (fun z _ => .g (.int .i64 z)) (fun n cs y h hl => int_cell h hl) h
theorem open_i (hv : Value.okWide Tryz.prog w r b0 3 v) (h : DataW.Trod enc Tryz.prog w base spare held 3 v d p) : ∃ x : Int, v = .int .i64 x ∧ (Lit.int .i64 x).wf = true := by
  obtain ⟨x, hx, _, _, wx⟩ := open_int Tryz.underlying3 hv h
  exact ⟨x, hx, wx⟩
theorem cell_at {cs : List Value} {k : Nat} {v c : Value} (h : (cs.drop k).take 1 = [c]) (hv : cs[k]? = some v) : v = c := by
  have h1 : ((cs.drop k).take 1)[0]? = some c := by rw [h]; rfl
  rw [List.getElem?_take, if_pos (by omega), List.getElem?_drop, Nat.add_zero, hv] at h1
  exact Option.some.inj h1
theorem sub_at {cs : List Value} {k m o : Nat} {v : Value} (ho : o < m) (hv : cs[k + o]? = some v) : ((cs.drop k).take m)[o]? = some v := by
  rw [List.getElem?_take, if_pos ho, List.getElem?_drop]; exact hv
theorem fld {t : TypeId} {fs : Array Field} {n : Nat} {cs : List Value} {y : DataW H × List MemPlace} (ht : Tryz.prog.underlying t = some (.struct fs)) (h : DataW.trod enc Tryz.prog w base spare held n t cs = some y) (i : Nat) {f : Field} (hf : fs[i]? = some f) {T k m : Nat} (hT : f.type = T) (hk : f.offset = k) (hm : Tryz.prog.cellsOf T = m) :
    cs.length = Tryz.prog.cellsOf t ∧ ∃ n' y', DataW.trod enc Tryz.prog w base spare held n' T ((cs.drop k).take m) = some y' := by
  obtain ⟨xs, n', _, _, hl, hlen, hx⟩ := DataW.trod_struct ht h
  have h1 := hx i f hf
  rw [hT, hk, hm] at h1
  have hi : i < xs.length := by
    rw [hlen]
    have := (Array.getElem?_eq_some_iff.1 hf)
    exact this.1
  rw [List.getElem?_eq_getElem hi] at h1
  exact ⟨hl, n', _, h1⟩
theorem fld_int {t : TypeId} {fs : Array Field} {n : Nat} {cs : List Value} {y : DataW H × List MemPlace} (ht : Tryz.prog.underlying t = some (.struct fs)) (h : DataW.trod enc Tryz.prog w base spare held n t cs = some y) (i : Nat) {f : Field} (hf : fs[i]? = some f) (hT : f.type = 3) {k : Nat} (hk : f.offset = k) :
    ∃ a : Int, ∀ v, cs[k]? = some v → Rd w (Zw w) v (.g (.int .i64 a)) := by
  obtain ⟨_, n', y', g⟩ := fld ht h i hf hT hk cells3
  obtain ⟨a, e, _, _⟩ := DataW.trod_int Tryz.underlying3 g
  exact ⟨a, fun v hv => by rw [cell_at e hv]; exact .g _ rfl⟩
theorem sl_one {t e : TypeId} (ht : Tryz.prog.underlying t = some (.slice e)) {n : Nat} {cs : List Value} {k : Nat} {y : DataW H × List MemPlace} (h : DataW.trod enc Tryz.prog w base spare held n t ((cs.drop k).take 1) = some y) : ∃ c, DataW.trod enc Tryz.prog w base spare held n t [c] = some y ∧ ∀ v, cs[k]? = some v → v = c := by
  obtain ⟨a, l, c, e⟩ := slice_form ht h
  exact ⟨_, by rw [e] at h; exact h, fun v hv => cell_at e hv⟩
abbrev FeatK : Type := {f : Feat // f.Ok}
abbrev OpK : Type := {o : OpS // o.f.Ok}
abbrev StepK : Type := {s : StepS // s.q ≤ 9223372036854775807}
abbrev PtK : Type := {p : PtS // p.k ≤ 9223372036854775807 ∧ ∀ i, i < p.k → (p.o i).f.Ok}
instance : Inhabited FeatK := ⟨⟨feat0, feat0_ok⟩⟩
instance : Inhabited OpK := ⟨⟨⟨0, 0, feat0, 0, 0, 0, 0, 0⟩, feat0_ok⟩⟩
instance : Inhabited StepK := ⟨⟨⟨0, 0, fun _ => 0⟩, Nat.zero_le _⟩⟩
instance : Inhabited PtK := ⟨⟨⟨0, fun _ => ⟨0, 0, feat0, 0, 0, 0, 0, 0⟩⟩, Nat.zero_le _, fun _ h => absurd h (Nat.not_lt_zero _)⟩⟩
theorem cells27 : Tryz.prog.cellsOf 27 = 1 := by kernel_rfl
theorem cells63 : Tryz.prog.cellsOf 63 = 1 := by kernel_rfl
theorem cells64 : Tryz.prog.cellsOf 64 = 1 := by kernel_rfl
theorem cells22 : Tryz.prog.cellsOf 22 = 1 := by kernel_rfl
theorem cells54 : Tryz.prog.cellsOf 54 = 1 := by kernel_rfl
theorem cells23 : Tryz.prog.cellsOf 23 = 1 := by kernel_rfl
theorem cells24 : Tryz.prog.cellsOf 24 = 1 := by kernel_rfl
theorem cellspt : Tryz.prog.cellsOf 62 = 2 := by kernel_rfl
theorem pt_cells {n : Nat} {cs : List Value} {y : DataW H × List MemPlace} (h : DataW.trod enc Tryz.prog w base spare held n 62 cs = some y) : ∃ z : Nat → Int, ∀ (o : Nat) v, cs[o]? = some v → Rd w (Zw w) v (.g (.int .i64 (z o))) := by
  have hlen : cs.length = 2 := by rw [(fld Tryz.underlying62 h 0 rfl rfl rfl rfl).1, cellspt]
  obtain ⟨a, ca⟩ := fld_int Tryz.underlying62 h 0 rfl rfl rfl (k := 0)
  obtain ⟨b, cb⟩ := fld_int Tryz.underlying62 h 1 rfl rfl rfl (k := 1)
  refine ⟨fun o => match o with | 0 => a | _ => b, fun o v hv => ?_⟩
  match o, hv with
  | 0, hv => exact ca _ hv
  | 1, hv => exact cb _ hv
  | o + 2, hv => rw [List.getElem?_eq_none (by omega)] at hv; cases hv
theorem cellssec : Tryz.prog.cellsOf 151 = 6 := by kernel_rfl
theorem sec_cells {n : Nat} {cs : List Value} {y : DataW H × List MemPlace} (h : DataW.trod enc Tryz.prog w base spare held n 151 cs = some y) : ∃ z : Nat → Int, ∀ (o : Nat) v, cs[o]? = some v → Rd w (Zw w) v (.g (.int .i64 (z o))) := by
  have hlen : cs.length = 6 := by rw [(fld Tryz.underlying151 h 0 rfl rfl rfl rfl).1, cellssec]
  obtain ⟨_, n0, y0, g0⟩ := fld Tryz.underlying151 h 0 rfl rfl rfl (k := 0) (T := 62) cellspt
  obtain ⟨p, r0⟩ := pt_cells g0
  obtain ⟨_, n1, y1, g1⟩ := fld Tryz.underlying151 h 1 rfl rfl rfl (k := 2) (T := 62) cellspt
  obtain ⟨q, r1⟩ := pt_cells g1
  obtain ⟨c, cc⟩ := fld_int Tryz.underlying151 h 2 rfl rfl rfl (k := 4)
  obtain ⟨d, cd⟩ := fld_int Tryz.underlying151 h 3 rfl rfl rfl (k := 5)
  refine ⟨fun o => match o with | 0 => p 0 | 1 => p 1 | 2 => q 0 | 3 => q 1 | 4 => c | _ => d, fun o v hv => ?_⟩
  match o, hv with
  | 0, hv => exact r0 0 _ (sub_at (by omega) hv)
  | 1, hv => exact r0 1 _ (sub_at (by omega) hv)
  | 2, hv => exact r1 0 _ (sub_at (by omega) hv)
  | 3, hv => exact r1 1 _ (sub_at (by omega) hv)
  | 4, hv => exact cc _ hv
  | 5, hv => exact cd _ hv
  | o + 6, hv => rw [List.getElem?_eq_none (by omega)] at hv; cases hv
theorem open_pts {c : Value} {n : Nat} {y : DataW H × List MemPlace} (h : DataW.trod enc Tryz.prog w base spare held n 63 [c] = some y) : ∃ (k : Nat) (s : Nat → (Nat → Int)), k ≤ 9223372036854775807 ∧ Rd w (Zw w) c (.lst 2 k (ptI s)) :=
  rd_slice Tryz.underlying63 cellspt (by omega) (fun (z : Nat → Int) o => .g (.int .i64 (z o))) (fun n cs y h hl => pt_cells h) h
theorem open_secs {c : Value} {n : Nat} {y : DataW H × List MemPlace} (h : DataW.trod enc Tryz.prog w base spare held n 64 [c] = some y) : ∃ (k : Nat) (s : Nat → (Nat → Int)), k ≤ 9223372036854775807 ∧ Rd w (Zw w) c (.lst 6 k (ptI s)) :=
  rd_slice Tryz.underlying64 cellssec (by omega) (fun (z : Nat → Int) o => .g (.int .i64 (z o))) (fun n cs y h hl => sec_cells h) h
theorem cellsfeat : Tryz.prog.cellsOf 66 = 9 := by kernel_rfl
theorem feat_cells {n : Nat} {cs : List Value} {y : DataW H × List MemPlace} (h : DataW.trod enc Tryz.prog w base spare held n 66 cs = some y) : ∃ z : FeatK, ∀ (o : Nat) v, cs[o]? = some v → Rd w (Zw w) v (featG z.1 o) := by
  have hlen : cs.length = 9 := by rw [(fld Tryz.underlying66 h 0 rfl rfl rfl rfl).1, cellsfeat]
  obtain ⟨a0, ca0⟩ := fld_int Tryz.underlying66 h 0 rfl rfl rfl (k := 0)
  obtain ⟨a1, ca1⟩ := fld_int Tryz.underlying66 h 1 rfl rfl rfl (k := 1)
  obtain ⟨_, n2, y2, g2⟩ := fld Tryz.underlying66 h 2 rfl rfl rfl (k := 2) (T := 62) cellspt
  obtain ⟨p, r2⟩ := pt_cells g2
  obtain ⟨a3, ca3⟩ := fld_int Tryz.underlying66 h 3 rfl rfl rfl (k := 4)
  obtain ⟨_, n4, y4, g4⟩ := fld Tryz.underlying66 h 4 rfl rfl rfl (k := 5) (T := 63) cells63
  obtain ⟨c4, k4, e4⟩ := sl_one Tryz.underlying63 g4
  obtain ⟨m4, s4, b4, r4⟩ := open_pts k4
  obtain ⟨a5, ca5⟩ := fld_int Tryz.underlying66 h 5 rfl rfl rfl (k := 6)
  obtain ⟨a6, ca6⟩ := fld_int Tryz.underlying66 h 6 rfl rfl rfl (k := 7)
  obtain ⟨_, n7, y7, g7⟩ := fld Tryz.underlying66 h 7 rfl rfl rfl (k := 8) (T := 64) cells64
  obtain ⟨c7, k7, e7⟩ := sl_one Tryz.underlying64 g7
  obtain ⟨m7, s7, b7, r7⟩ := open_secs k7
  refine ⟨⟨⟨a0, a1, p 0, p 1, a3, m4, s4, a5, a6, m7, s7⟩, b4, b7⟩, fun o v hv => ?_⟩
  match o, hv with
  | 0, hv => exact ca0 _ hv
  | 1, hv => exact ca1 _ hv
  | 2, hv => exact r2 0 _ (sub_at (by omega) hv)
  | 3, hv => exact r2 1 _ (sub_at (by omega) hv)
  | 4, hv => exact ca3 _ hv
  | 5, hv => rw [e4 _ hv]; exact r4
  | 6, hv => exact ca5 _ hv
  | 7, hv => exact ca6 _ hv
  | 8, hv => rw [e7 _ hv]; exact r7
  | o + 9, hv => rw [List.getElem?_eq_none (by omega)] at hv; cases hv
theorem cellsop : Tryz.prog.cellsOf 112 = 16 := by kernel_rfl
theorem op_cells {n : Nat} {cs : List Value} {y : DataW H × List MemPlace} (h : DataW.trod enc Tryz.prog w base spare held n 112 cs = some y) : ∃ z : OpK, ∀ (o : Nat) v, cs[o]? = some v → Rd w (Zw w) v (oprG z.1 o) := by
  have hlen : cs.length = 16 := by rw [(fld Tryz.underlying112 h 0 rfl rfl rfl rfl).1, cellsop]
  obtain ⟨a0, ca0⟩ := fld_int Tryz.underlying112 h 0 rfl rfl rfl (k := 0)
  obtain ⟨a1, ca1⟩ := fld_int Tryz.underlying112 h 1 rfl rfl rfl (k := 1)
  obtain ⟨_, n2, y2, g2⟩ := fld Tryz.underlying112 h 2 rfl rfl rfl (k := 2) (T := 66) cellsfeat
  obtain ⟨f, r2⟩ := feat_cells g2
  obtain ⟨_, n3, y3, g3⟩ := fld Tryz.underlying112 h 3 rfl rfl rfl (k := 11) (T := 62) cellspt
  obtain ⟨p, r3⟩ := pt_cells g3
  obtain ⟨a4, ca4⟩ := fld_int Tryz.underlying112 h 4 rfl rfl rfl (k := 13)
  obtain ⟨a5, ca5⟩ := fld_int Tryz.underlying112 h 5 rfl rfl rfl (k := 14)
  obtain ⟨a6, ca6⟩ := fld_int Tryz.underlying112 h 6 rfl rfl rfl (k := 15)
  refine ⟨⟨⟨a0, a1, f.1, p 0, p 1, a4, a5, a6⟩, f.2⟩, fun o v hv => ?_⟩
  match o, hv with
  | 0, hv => exact ca0 _ hv
  | 1, hv => exact ca1 _ hv
  | 2, hv => exact r2 0 _ (sub_at (by omega) hv)
  | 3, hv => exact r2 1 _ (sub_at (by omega) hv)
  | 4, hv => exact r2 2 _ (sub_at (by omega) hv)
  | 5, hv => exact r2 3 _ (sub_at (by omega) hv)
  | 6, hv => exact r2 4 _ (sub_at (by omega) hv)
  | 7, hv => exact r2 5 _ (sub_at (by omega) hv)
  | 8, hv => exact r2 6 _ (sub_at (by omega) hv)
  | 9, hv => exact r2 7 _ (sub_at (by omega) hv)
  | 10, hv => exact r2 8 _ (sub_at (by omega) hv)
  | 11, hv => exact r3 0 _ (sub_at (by omega) hv)
  | 12, hv => exact r3 1 _ (sub_at (by omega) hv)
  | 13, hv => exact ca4 _ hv
  | 14, hv => exact ca5 _ hv
  | 15, hv => exact ca6 _ hv
  | o + 16, hv => rw [List.getElem?_eq_none (by omega)] at hv; cases hv
theorem open_fea {c : Value} {n : Nat} {y : DataW H × List MemPlace} (h : DataW.trod enc Tryz.prog w base spare held n 22 [c] = some y) : ∃ (k : Nat) (s : Nat → FeatK), k ≤ 9223372036854775807 ∧ Rd w (Zw w) c (.lst 9 k (featF fun i => (s i).1)) :=
  rd_slice Tryz.underlying22 cellsfeat (by omega) (fun (z : FeatK) o => featG z.1 o) (fun n cs y h hl => feat_cells h) h
theorem open_ops {c : Value} {n : Nat} {y : DataW H × List MemPlace} (h : DataW.trod enc Tryz.prog w base spare held n 54 [c] = some y) : ∃ (k : Nat) (s : Nat → OpK), k ≤ 9223372036854775807 ∧ Rd w (Zw w) c (.lst 16 k (oprF fun i => (s i).1)) :=
  rd_slice Tryz.underlying54 cellsop (by omega) (fun (z : OpK) o => oprG z.1 o) (fun n cs y h hl => op_cells h) h
theorem cellsstp : Tryz.prog.cellsOf 48 = 2 := by kernel_rfl
theorem stp_cells {n : Nat} {cs : List Value} {y : DataW H × List MemPlace} (h : DataW.trod enc Tryz.prog w base spare held n 48 cs = some y) : ∃ z : StepK, ∀ (o : Nat) v, cs[o]? = some v → Rd w (Zw w) v (stpG z.1 o) := by
  have hlen : cs.length = 2 := by rw [(fld Tryz.underlying48 h 0 rfl rfl rfl rfl).1, cellsstp]
  obtain ⟨a0, ca0⟩ := fld_int Tryz.underlying48 h 0 rfl rfl rfl (k := 0)
  obtain ⟨_, n1, y1, g1⟩ := fld Tryz.underlying48 h 1 rfl rfl rfl (k := 1) (T := 27) cells27
  obtain ⟨c1, k1, e1⟩ := sl_one Tryz.underlying27 g1
  obtain ⟨q, a, b1, r1⟩ := open_ints' k1
  refine ⟨⟨⟨a0, q, a⟩, b1⟩, fun o v hv => ?_⟩
  match o, hv with
  | 0, hv => exact ca0 _ hv
  | 1, hv => rw [e1 _ hv]; exact r1
  | o + 2, hv => rw [List.getElem?_eq_none (by omega)] at hv; cases hv
theorem open_steps {c : Value} {n : Nat} {y : DataW H × List MemPlace} (h : DataW.trod enc Tryz.prog w base spare held n 23 [c] = some y) : ∃ (k : Nat) (s : Nat → StepK), k ≤ 9223372036854775807 ∧ Rd w (Zw w) c (.lst 2 k (stF fun i => (s i).1)) :=
  rd_slice Tryz.underlying23 cellsstp (by omega) (fun (z : StepK) o => stpG z.1 o) (fun n cs y h hl => stp_cells h) h
theorem ops_cell {n : Nat} {cs : List Value} {y : DataW H × List MemPlace} (h : DataW.trod enc Tryz.prog w base spare held n 54 cs = some y) (hl : cs.length = 1) : ∃ z : PtK, ∀ (o : Nat) v, cs[o]? = some v → Rd w (Zw w) v (.lst 16 z.1.k (oprF z.1.o)) := by
  match cs, hl with
  | [c], _ =>
    obtain ⟨k, s, hk, hz⟩ := open_ops h
    refine ⟨⟨⟨k, fun i => (s i).1⟩, hk, fun i _ => (s i).2⟩, fun o v hv => ?_⟩
    rcases o with _ | o
    · simp at hv; subst hv; exact hz
    · simp at hv
theorem open_pats {c : Value} {n : Nat} {y : DataW H × List MemPlace} (h : DataW.trod enc Tryz.prog w base spare held n 24 [c] = some y) : ∃ (k : Nat) (s : Nat → PtK), k ≤ 9223372036854775807 ∧ Rd w (Zw w) c (.lst 1 k (ptF fun i => (s i).1)) :=
  rd_slice Tryz.underlying24 cells54 (by omega) (fun (z : PtK) _ => .lst 16 z.1.k (oprF z.1.o)) (fun n cs y h hl => ops_cell h hl) h
theorem cellscas : Tryz.prog.cellsOf 26 = 3 := by kernel_rfl
theorem cas_cells {n : Nat} {cs : List Value} {y : DataW H × List MemPlace} (h : DataW.trod enc Tryz.prog w base spare held n 26 cs = some y) : ∃ z : CaS, z.Ok ∧ ∀ (o : Nat) v, cs[o]? = some v → Rd w (Zw w) v (match o with | 0 => .lst 9 z.n (featF z.f) | 1 => .lst 2 z.m (stF z.S) | _ => .lst 1 z.mo (ptF z.O)) := by
  have hlen : cs.length = 3 := by rw [(fld Tryz.underlying26 h 0 rfl rfl rfl rfl).1, cellscas]
  obtain ⟨_, n0, y0, g0⟩ := fld Tryz.underlying26 h 0 rfl rfl rfl (k := 0) (T := 22) cells22
  obtain ⟨c0, k0, e0⟩ := sl_one Tryz.underlying22 g0
  obtain ⟨kA, sA, bA, r0⟩ := open_fea k0
  obtain ⟨_, n1, y1, g1⟩ := fld Tryz.underlying26 h 1 rfl rfl rfl (k := 1) (T := 23) cells23
  obtain ⟨c1, k1, e1⟩ := sl_one Tryz.underlying23 g1
  obtain ⟨kB, sB, bB, r1⟩ := open_steps k1
  obtain ⟨_, n2, y2, g2⟩ := fld Tryz.underlying26 h 2 rfl rfl rfl (k := 2) (T := 24) cells24
  obtain ⟨c2, k2, e2⟩ := sl_one Tryz.underlying24 g2
  obtain ⟨kC, sC, bC, r2⟩ := open_pats k2
  refine ⟨⟨kA, fun i => (sA i).1, kB, fun i => (sB i).1, kC, fun i => (sC i).1⟩, ⟨bA, fun i _ => (sA i).2, bB, fun i _ => (sB i).2, bC, fun i _ => (sC i).2.1, fun i _ => (sC i).2.2⟩, fun o v hv => ?_⟩
  match o, hv with
  | 0, hv => rw [e0 _ hv]; exact r0
  | 1, hv => rw [e1 _ hv]; exact r1
  | 2, hv => rw [e2 _ hv]; exact r2
  | o + 3, hv => rw [List.getElem?_eq_none (by omega)] at hv; cases hv
theorem array3' {α : Type} {cs : Array α} (h : cs.size = 3) : ∃ c0 c1 c2, cs = #[c0, c1, c2] := by
  obtain ⟨l⟩ := cs
  match l, h with
  | [c0, c1, c2], _ => exact ⟨c0, c1, c2, rfl⟩
theorem array2' {α : Type} {cs : Array α} (h : cs.size = 2) : ∃ c0 c1, cs = #[c0, c1] := by
  obtain ⟨l⟩ := cs
  match l, h with
  | [c0, c1], _ => exact ⟨c0, c1, rfl⟩
theorem open_case (hv : Value.okWide Tryz.prog w r b0 26 v) (h : DataW.Trod enc Tryz.prog w base spare held 26 v d p) : ∃ z : CaS, z.Ok ∧ PTRel w (Zw w) v (.agg [.lst 9 z.n (featF z.f), .lst 2 z.m (stF z.S), .lst 1 z.mo (ptF z.O)]) := by
  obtain ⟨cs, rfl, hsz⟩ := okWide_struct Tryz.underlying26 hv
  obtain ⟨c0, c1, c2, rfl⟩ := array3' (hsz.trans cellscas)
  obtain ⟨fuel, hf⟩ := h
  obtain ⟨z, hN, hz⟩ := cas_cells (cs := [c0, c1, c2]) (by simpa [Value.cells] using hf)
  exact ⟨z, hN, _, rfl, hz 0 c0 rfl, hz 1 c1 rfl, hz 2 c2 rfl, trivial⟩
theorem open_ints (hv : Value.okWide Tryz.prog w r b0 27 v) (h : DataW.Trod enc Tryz.prog w base spare held 27 v d p) : ∃ (k : Nat) (s : Nat → Int), k ≤ 9223372036854775807 ∧ PTRel w (Zw w) v (.one (.lst 1 k (intI s))) := by
  obtain ⟨p0, len, cap, rfl⟩ := okWide_slice Tryz.underlying27 hv
  obtain ⟨fuel, hf⟩ := h
  obtain ⟨k, s, hk, hz⟩ := open_ints' (by simpa [Value.cells] using hf)
  exact ⟨k, s, hk, hz⟩
theorem open_step (hv : Value.okWide Tryz.prog w r b0 48 v) (h : DataW.Trod enc Tryz.prog w base spare held 48 v d p) : ∃ s : StepS, s.q ≤ 9223372036854775807 ∧ PTRel w (Zw w) v (.agg [.g (.int .i64 s.nu), .lst 1 s.q (intI s.a)]) := by
  obtain ⟨cs, rfl, hsz⟩ := okWide_struct Tryz.underlying48 hv
  obtain ⟨c0, c1, rfl⟩ := array2' (hsz.trans cellsstp)
  obtain ⟨fuel, hf⟩ := h
  obtain ⟨z, hz⟩ := stp_cells (cs := [c0, c1]) (by simpa [Value.cells] using hf)
  exact ⟨z.1, z.2, _, rfl, hz 0 c0 rfl, hz 1 c1 rfl, trivial⟩
theorem open_opl (hv : Value.okWide Tryz.prog w r b0 54 v) (h : DataW.Trod enc Tryz.prog w base spare held 54 v d p) : ∃ z : PtS, z.k ≤ 9223372036854775807 ∧ (∀ i, i < z.k → (z.o i).f.Ok) ∧ PTRel w (Zw w) v (.one (.lst 16 z.k (oprF z.o))) := by
  obtain ⟨p0, len, cap, rfl⟩ := okWide_slice Tryz.underlying54 hv
  obtain ⟨fuel, hf⟩ := h
  obtain ⟨k, s, hk, hz⟩ := open_ops (by simpa [Value.cells] using hf)
  exact ⟨⟨k, fun i => (s i).1⟩, hk, fun i _ => (s i).2, hz⟩
end
abbrev laidL : List (String × DataW Unit) := [("math/bits.deBruijn32tab", Rows.laid_math_bits_deBruijn32tab), ("math/bits.deBruijn64tab", Rows.laid_math_bits_deBruijn64tab)]
theorem g64 : Tryz.prog.globalNamed "math/bits.deBruijn64tab" = some 1 := by kernel_rfl
theorem t64 : (Tryz.prog.globals[1]?).map (·.type) = some 183 := by kernel_rfl
theorem u64t : ∃ e, Tryz.prog.underlying 183 = some (.array 64 e) ∧ Tryz.prog.underlying e = some (.int .u8) ∧ Tryz.prog.cellsOf e = 1 ∧ Tryz.prog.cellsOf 183 = 64 := ⟨5, by kernel_rfl, by kernel_rfl, by kernel_rfl, by kernel_rfl⟩
def tab64 : List Int := Lib.deBruijn64tab.map Int.ofNat
theorem laid64 : (Rows.laid_math_bits_deBruijn64tab : DataW Unit) = Lib.tabData .u8 tab64 := rfl
theorem door_met (os : Os) (args : Array Value) : laidMetH Tryz.prog laidL ((World.doorLaid Tryz.prog 400 os).forCall (fun _ _ => 0) ⟨#[], args, []⟩).memory :=
  laidMetH_of_parts3 (fuel := 8) (laidMet_of_run' 8 (by kernel_rfl) (by kernel_rfl)) (by kernel_rfl) (by kernel_rfl)
theorem tab_of_laid {W : World} (h : laidMetH Tryz.prog laidL W) : Tab W := by
  rw [MakeChecks.laidMetH_plain _ _ _ (by kernel_rfl)] at h
  obtain ⟨ps, ⟨g0, t0, cs0, f0, p0, q0, hg0, ht0, hv0, hd0, ⟨g1, t1, cs1, f1, p1, q1, hg1, ht1, hv1, hd1, _, _⟩, _⟩, _, _⟩ := h
  obtain rfl := Option.some.inj (g64.symm.trans hg1)
  obtain rfl := Option.some.inj (t64.symm.trans ht1)
  obtain ⟨e, e1, e2, e3, e4⟩ := u64t
  rw [laid64] at hd1
  have hcs := Lib.cells_of_tab e1 e2 e3 e4 hd1
  intro j hj
  rw [World.var?_cell g64 hv1 j]
  have : cs1 = (tab64.map fun z => Value.int .u8 z).toArray := by rw [← hcs]
  rw [this]
  have hj2 : j < (tab64.map fun z => Value.int .u8 z).length := by simpa [tab64] using hj
  simp [tab64, List.getD_eq_getElem?_getD, List.getElem?_eq_getElem hj]
end Go.Proofs.YtmnejmpjmniiiaaGreatDoor
namespace Go.Proofs.YtmnejmpjmniiiaaGreatDoor
open Go.RowKit Go.Sea Go.Lib
theorem below_alloc (w : World) (o : Obj) : Below w.heap.size w (w.alloc o) := by
  refine ⟨rfl, rfl, rfl, by simp, fun k hk => ?_⟩
  exact Below.heap_alloc _ _ _ hk
theorem sl22F : Tryz.prog.underlying 22 = some (.slice 66) := by kernel_rfl
theorem by33F : (Tryz.prog.info? 66).map (fun i => (i.size, i.bytes, i.zero.map (·.cells.size))) = some (9, 104, some 9) := by kernel_rfl
set_option maxHeartbeats 4000000 in
set_option maxRecDepth 100000 in
set_option maxHeartbeats 2000000 in
theorem clone_nilF (cap : Nat) (w : World) : Calls Tryz.prog 82 #[.slice none 0 cap] w fun e w' => e = .returned (.slice none 0 0) ∧ w' = w := by
  have q : (binOp .eql 22 (.slice none 0 cap) (.slice none 0 0)).run Tryz.prog w = .ok (.bool true) w := run_eql_slice_nil w 22 66 none 0 cap 0 0 sl22F
  go_enter Tryz.func82, Tryz.ntmps82
  go_wp2
  go_ret
  exact ⟨rfl, rfl⟩
set_option maxHeartbeats 4000000 in
set_option maxRecDepth 100000 in
theorem clone_someF (p : Addr) (n cap : Nat) (w w' : World) (u : Value) (h : ∀ ty, (Builtin.append_ #[22,22] ty #[.slice (some ⟨w.heap.size, 0, none⟩) 0 0, .slice (some p) n cap]).run Tryz.prog (w.alloc (.cells #[] 66)) = .ok u w') : Calls Tryz.prog 82 #[.slice (some p) n cap] w fun e w'' => e = .returned u ∧ w'' = w' := by
  have q : (binOp .eql 22 (.slice (some p) n cap) (.slice none 0 0)).run Tryz.prog w = .ok (.bool false) w := run_eql_slice_nil w 22 66 (some p) n cap 0 0 sl22F
  go_enter Tryz.func82, Tryz.ntmps82
  go_wp2_with (at_builtin; refine Lib.wpList_append_run _ rfl _ _ _ _ rfl _ _ rfl rfl _ _ (h _) ?_)
  all_goals (go_ret; exact ⟨rfl, rfl⟩)
set_option maxHeartbeats 2000000 in
theorem clone_nF (n : Nat) (f : Nat → Nat → IV) (hn : n ≤ 1000) : CallsN Tryz.prog 82 [.one (.iv (.lst 9 n f))] (lstC f 9 n 0) (fun i => .t (.one (.slc i 0 n 9))) := by
  intro H i hH w0 Z0 J Z s a w vs R hs hv
  subst hs
  obtain ⟨vs⟩ := vs
  match vs, hv with
  | [v], ⟨hv, _⟩ =>
    have hv : Rd w Z v (.lst 9 n f) := hv
    have hlen : (lstC f 9 n 0).length = n * 9 := lstC_len f 9 n 0
    have empty : ∀ (p : Addr) (cap : Nat), n = 0 → v = .slice (some p) 0 cap → Calls Tryz.prog 82 #[v] w fun e w' => ∃ v J' Z', e = .returned v ∧ Rel w0 Z0 J' Z' { s with heap := hset s.heap i (lstC f 9 n 0) } a w' ∧ ARel w' J' Z' v (.t (.one (.slc i 0 n 9))) := fun p cap h0 ev => by
      subst h0; subst ev
      obtain ⟨ii, h33⟩ : ∃ ii, Tryz.prog.info? 66 = some ii := by
        have := by33F
        cases h : Tryz.prog.info? 66 with
        | none => rw [h] at this; cases this
        | some i => exact ⟨i, rfl⟩
      refine (clone_someF p 0 cap w _ _ fun ty => run_append_none sl22F h33 _ _ 0 0 cap (Nat.le_refl _)).mono fun e w' ⟨he, hw⟩ => ?_
      subst hw
      have R1 := R.new (nid := i) (cs := []) (c := #[]) (e := 66) (H := hset s.heap i []) hH (hget_hset_same _ _ _) (fun q hq => hget_hset_ne _ _ _ _ hq) (by simp [All2])
      exact ⟨_, _, _, he, R1, Or.inr ⟨w.heap.size, 0, #[], 66, rfl, by simp [jset], Nat.zero_le _, Nat.zero_le _, heap_alloc_new w _, by simp⟩⟩
    have hv0 := hv
    cases hv with
    | nil p cap =>
      cases p with
      | none =>
        refine (clone_nilF cap w).mono fun e w' ⟨he, hw⟩ => ?_
        subst hw
        exact ⟨_, J, Z, he, R.newEmpty (nid := i) hH (by rw [hget_hset_same]; rfl) (fun q hq => hget_hset_ne _ _ _ _ hq), Or.inl ⟨rfl, rfl⟩⟩
      | some p => exact empty p cap rfl rfl
    | lst b off _ cap _ _ X hz hc hm h1 h2 =>
      by_cases h0 : n = 0
      · exact empty ⟨b, off, none⟩ cap h0 (by rw [h0])
      · obtain ⟨hR1, G⟩ := R.call (below_alloc w (.cells #[] 66))
        have hv1 : TRel (w.alloc (.cells #[] 66)) J (fun b => Z b ∨ (w.heap.size ≤ b ∧ b < (w.alloc (.cells #[] 66)).heap.size)) (.slice (some ⟨b, off, none⟩) n cap) (.one (.iv (.lst 9 n f))) := CRel.grow G (CV.ok_all (.iv (.lst 9 n f))) hv0
        obtain ⟨ii, z, t1, t2, t3, t4, t5, t6, t7⟩ := slD_spec (P := Tryz.prog) (t := 22) (e := 66) (n := 9) (b := 104) (by kernel_rfl)
        rcases src_cells hR1 (size := 9) (m := n) (nd := True) (x := .one (.iv (.lst 9 n f))) (ns := lstC f 9 n 0) (by simp [srcF]) trivial hv1 with ⟨h, _⟩ | ⟨hpos, b2, off2, cap2, news, e2, n1, n2, n3, n4⟩
        · exact absurd h h0
        · cases e2
          have hrun := fun ty => run_append_grow (P := Tryz.prog) (w.alloc (.cells #[] 66)) 22 ty 66 ii z t1 t2 t3 ⟨w.heap.size, 0, none⟩ 0 0 [] (by simp) (fun j v h => by simp at h) ⟨b, off, none⟩ n cap news (by rw [n1, t5]) n2 (by omega) (by omega) (by
            rw [t6]; exact growslice_fits (by omega) (by omega))
          simp only [Nat.zero_add] at hrun
          have hsz := grownCap_ge (w.alloc (.cells #[] 66)) n 0 66
          have hmx := grownCap_le_maxLen (w.alloc (.cells #[] 66)) n 0 66 (by unfold maxLen; omega)
          generalize grownCap (w.alloc (.cells #[] 66)) n 0 66 = G at hrun hsz hmx
          have hC : G * 9 ≤ (([] : List Value).toArray ++ news.toArray ++ Builtin.zeroCells z.cells (G - n)).size := by
            simp only [Array.size_append, size_zeroCells, t4, List.size_toArray, n1, List.length_nil]
            omega
          have hD : All2 (CRel (w.alloc (.cells #[] 66)) J (fun b => Z b ∨ (w.heap.size ≤ b ∧ b < (w.alloc (.cells #[] 66)).heap.size))) ((([] : List Value).toArray ++ news.toArray ++ Builtin.zeroCells z.cells (G - n)).toList.take (lstC f 9 n 0).length) (lstC f 9 n 0) := by
            rw [Array.toList_append, Array.toList_append, List.nil_append, List.take_append_of_le_length (by simp; omega), List.take_of_length_le (by simp; omega)]
            exact n4
          generalize ([] : List Value).toArray ++ news.toArray ++ Builtin.zeroCells z.cells (G - n) = C at hrun hC hD
          have cl := clone_someF ⟨b, off, none⟩ n cap w _ _ hrun
          have R2 := (hR1.drew).new (nid := i) (cs := lstC f 9 n 0) (c := C) (e := 66) (H := hset s.heap i (lstC f 9 n 0)) hH (hget_hset_same _ _ _) (fun q hq => hget_hset_ne _ _ _ _ hq) (all2_drew hD)
          have hA := heap_alloc_new (w.alloc (.cells #[] 66)).drew (.cells C 66)
          generalize hw1 : w.alloc (.cells #[] 66) = w1 at cl R2 hA
          refine cl.mono fun e w' ⟨he, hw⟩ => ?_
          subst hw
          exact ⟨_, _, _, he, R2, Or.inr ⟨_, _, _, 66, rfl, by simp [jset], hsz, hmx, hA, by rw [Nat.zero_add]; exact hC⟩⟩
end Go.Proofs.YtmnejmpjmniiiaaGreatDoor
namespace Go.Proofs
open Go.Shelf
def Tryz.laysNm727_ren : Go.Shelf.Ren := ⟨fun | 27 => 111 | 28 => 138 | 29 => 139 | n => n, fun | 25 => 88 | 3 => 3 | 27 => 153 | 22 => 155 | 4 => 4 | 53 => 182 | 0 => 0 | 5 => 5 | 54 => 183 | n => n, fun | 0 => 0 | 1 => 1 | n => n⟩
theorem Tryz.laysNm727 : Go.Proofs.Lays7.n27 Tryz.prog Tryz.laysNm727_ren := {
  mixed := by kernel_rfl
  f27 := Tryz.func111.trans (congrArg some (by kernel_rfl))
  f28 := Tryz.func138.trans (congrArg some (by kernel_rfl))
  f29 := Tryz.func139.trans (congrArg some (by kernel_rfl))
  t0 := Tryz.underlying0
  a0 := Tryz.isAgg0
  z0 := Tryz.sizeOf0
  v0 := Tryz.zeroValue0
  i0 := by kernel_rfl
  t3 := Tryz.underlying3
  a3 := Tryz.isAgg3
  z3 := Tryz.sizeOf3
  v3 := Tryz.zeroValue3
  i3 := by kernel_rfl
  t4 := Tryz.underlying4
  a4 := Tryz.isAgg4
  z4 := Tryz.sizeOf4
  v4 := Tryz.zeroValue4
  i4 := by kernel_rfl
  t5 := Tryz.underlying5
  a5 := Tryz.isAgg5
  z5 := Tryz.sizeOf5
  v5 := Tryz.zeroValue5
  i5 := by kernel_rfl
  t22 := Tryz.underlying155
  a22 := Tryz.isAgg155
  z22 := Tryz.sizeOf155
  v22 := Tryz.zeroValue155
  i22 := by kernel_rfl
  t25 := Tryz.underlying88
  a25 := Tryz.isAgg88
  z25 := Tryz.sizeOf88
  v25 := Tryz.zeroValue88
  i25 := by kernel_rfl
  t27 := Tryz.underlying153
  a27 := Tryz.isAgg153
  z27 := Tryz.sizeOf153
  v27 := Tryz.zeroValue153
  i27 := by kernel_rfl
  t53 := Tryz.underlying182
  a53 := Tryz.isAgg182
  z53 := Tryz.sizeOf182
  v53 := Tryz.zeroValue182
  i53 := by kernel_rfl
  t54 := Tryz.underlying183
  a54 := Tryz.isAgg183
  z54 := Tryz.sizeOf183
  g0 := by kernel_rfl
  g1 := by kernel_rfl }
open Go.RowKit in
theorem Tryz.bits_TrailingZeros (x : Nat) (hx : x < 18446744073709551616) (w : World) (hT : x ≠ 0 → TabAt 1 Lib.deBruijn64tab w) :
    Calls Tryz.prog 111 #[.int .u64 x] w fun e w' => e = .returned (.int .i64 (Lib.ctz 64 x)) ∧ w' = w := Any7.bits_TrailingZeros Tryz.laysNm727 x hx w hT
end Go.Proofs
