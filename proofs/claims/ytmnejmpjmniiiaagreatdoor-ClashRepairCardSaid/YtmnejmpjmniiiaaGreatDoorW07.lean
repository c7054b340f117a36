/- Part 7 of 16: contracts of functions and plain laws for the root text. No condition. -/
import Derived.Test.YtmnejmpjmniiiaaGreatDoorW01
import Derived.Test.YtmnejmpjmniiiaaGreatDoorW02
import Derived.Test.YtmnejmpjmniiiaaGreatDoorW03
import Derived.Test.YtmnejmpjmniiiaaGreatDoorW04
import Derived.Test.YtmnejmpjmniiiaaGreatDoorW05
import Derived.Test.YtmnejmpjmniiiaaGreatDoorW06
set_option linter.unusedVariables false
set_option linter.unusedSimpArgs false
set_option maxRecDepth 100000
set_option maxHeartbeats 4000000
namespace Go.Proofs.YtmnejmpjmniiiaaGreatDoor
open Go.RowKit Go.Sea
open Nat renaming reduceAdd → xA, reduceLT → xL, reduceLeDiff → xD, reduceEqDiff → xE, reduceMul → xM, reduceSub → xS, reduceBEq → xB
theorem ar_63 : arD Tryz.prog 63 = none := by kernel_rfl
theorem fnok_140 : fnOk Tryz.prog 140 = true := by kernel_rfl
theorem fnok_203 : fnOk Tryz.prog 203 = true := by kernel_rfl
theorem fnok_204 : fnOk Tryz.prog 204 = true := by kernel_rfl
theorem fnok_206 : fnOk Tryz.prog 206 = true := by kernel_rfl
theorem fnok_210 : fnOk Tryz.prog 210 = true := by kernel_rfl
theorem fnok_211 : fnOk Tryz.prog 211 = true := by kernel_rfl
theorem fnok_212 : fnOk Tryz.prog 212 = true := by kernel_rfl
theorem fnok_88 : fnOk Tryz.prog 88 = true := by kernel_rfl
theorem le_63 : lenD Tryz.prog 63 = some true := by kernel_rfl
theorem sl_63 : slD Tryz.prog 63 = some (2, 16, 62) := by kernel_rfl
theorem ty_62 : tyD Tryz.prog 62 = some (true, 2) := by kernel_rfl
theorem zc_62 : zeroC Tryz.prog 62 = some [.iv (.g (.int .i64 0)), .iv (.g (.int .i64 0))] := by kernel_rfl
attribute [go_sem] ar_63 fnok_140 fnok_203 fnok_204 fnok_206 fnok_210 fnok_211 fnok_212 fnok_88 le_63 sl_63 ty_62 zc_62
theorem sgn_cmp (z : Int) : (if z < 0 then (-1 : Int) else if 0 < z then 1 else 0) = sgn z := by
  unfold sgn
  split <;> split <;> first | rfl | omega | (split <;> rfl)
theorem turn_p (ax ay bx by' cx cy : Int) (ha : ptB ax ay = true) (hb : ptB bx by' = true) (hc : ptB cx cy = true) : CallsP Tryz.prog 204 [.agg [.g (.int .i64 (ax)), .g (.int .i64 (ay))], .agg [.g (.int .i64 (bx)), .g (.int .i64 (by'))], .agg [.g (.int .i64 (cx)), .g (.int .i64 (cy))]] (.t (.one (.g (.int .i64 (trn ax ay bx by' cx cy))))) := by
  have hA := pt_d.1 ha
  have hB := pt_d.1 hb
  have hC := pt_d.1 hc
  have hX := crs_bd ha hb hc
  refine CallsP_of Tryz.func204 rfl (by rw [Tryz.ntmps204]; simp) ?_
  simp only [Tryz.ntmps204, zM, PT.tv, argEnv, Nat.zero_add, Nat.reduceAdd]
  repeat' (first
 | ((with_reducible show AW _ _ _ _); first
 | (with_reducible first | refine aS (fun K hK => ?_) | refine aT ?_)
 | (first
 | (with_reducible refine aP 0 [0,1,2] ?_)
 | ((with_reducible refine aR (c := Code.region 1 _ true) [3,4,5] ?_); (with_reducible refine aD ?_ ?_ ?_ ?_); (focus kernel_rfl); (focus kernel_rfl); (focus kernel_rfl))))
 | ((first | (with_reducible refine And.intro ?_ ?_) | (with_reducible refine Need.mk ?_)); focus (exact True.intro))
 | (with_reducible refine retK_n ?_)
 | ((with_reducible refine And.intro ?_ ?_); focus ((with_reducible show chkR _ _ _ = true); kernel_rfl))
 | ((with_reducible show callDN _ _ _ _ _ _ _ _ _ _ _ _ _); first
 | (refine callDN_q (k := 210) fnok_210 (from_p _ _ _ _ ha hb) ?_ ?_)
 | (refine callDN_q (k := 210) fnok_210 (from_p _ _ _ _ ha hc) ?_ ?_)
 | (refine callDN_q (k := 211) fnok_211 (cross_p (bx - ax) (by' - ay) (cx - ax) (cy - ay) hX.1 hX.2) ?_ ?_)
 | (refine callDN_q (k := 88) fnok_88 (gcmp_p _ _) ?_ ?_))
 | ((fail_if_success (with_reducible show AW _ _ _ _)); simp (maxSteps := 2000000) only [go_sem, reduceIte, reduceCtorEq, xA, xL, xD, xE, xM, xS, xB, Tryz.f204])
 | ((with_reducible refine hK _ ?_); clear hK K))
  all_goals (exact sgn_cmp _)
theorem on_p (px py ax ay bx by' : Int) (hp : ptB px py = true) (ha : ptB ax ay = true) (hb : ptB bx by' = true) : CallsP Tryz.prog 212 [.agg [.g (.int .i64 (px)), .g (.int .i64 (py))], .agg [.g (.int .i64 (ax)), .g (.int .i64 (ay))], .agg [.g (.int .i64 (bx)), .g (.int .i64 (by'))]] (.t (.one (.g (.bool (onB px py ax ay bx by'))))) := by
  refine CallsP_of Tryz.func212 rfl (by rw [Tryz.ntmps212]; simp) ?_
  simp only [Tryz.ntmps212, zM, PT.tv, argEnv, Nat.zero_add, Nat.reduceAdd]
  repeat' (first
 | ((with_reducible show AW _ _ _ _); first
 | (with_reducible first | refine aS (fun K hK => ?_) | refine aT ?_)
 | (first
 | (with_reducible first | refine aP 0 [0,1,2] ?_ | refine aP 1 [3,4,5] ?_)))
 | (((with_reducible refine Need.mk ?_)); focus (exact True.intro))
 | (with_reducible refine retK_n ?_)
 | ((with_reducible show callN _ _ _ _ _ _ _ _ _ _); first
 | (refine callN_q (k := 204) fnok_204 (turn_p _ _ _ _ _ _ ha hb hp) ?_ ?_))
 | ((fail_if_success (with_reducible show AW _ _ _ _)); simp (maxSteps := 2000000) only [go_sem, reduceIte, reduceCtorEq, xA, xL, xD, xE, xM, xS, xB, Tryz.f212])
 | ((with_reducible refine hK _ ?_); clear hK K))
  all_goals (unfold onB; (try refine Bool.eq_iff_iff.2 ?_); simp only [Bool.and_eq_true, decide_eq_true_eq, beq_iff_eq]; omega)
theorem meet_p2 (ax ay bx by' cx cy dx dy : Int) (qa : ptB ax ay = true) (qb : ptB bx by' = true) (qc : ptB cx cy = true) (qd : ptB dx dy = true) : CallsP Tryz.prog 206 [.agg [.g (.int .i64 (ax)), .g (.int .i64 (ay))], .agg [.g (.int .i64 (bx)), .g (.int .i64 (by'))], .agg [.g (.int .i64 (cx)), .g (.int .i64 (cy))], .agg [.g (.int .i64 (dx)), .g (.int .i64 (dy))]] (.t (.one (.g (.bool (meetB ax ay bx by' cx cy dx dy))))) := by
  have t1 := trn_bd ax ay bx by' cx cy
  have t2 := trn_bd ax ay bx by' dx dy
  have t3 := trn_bd cx cy dx dy ax ay
  have t4 := trn_bd cx cy dx dy bx by'
  have m1 := mul_bd t1 t2
  have m2 := mul_bd t3 t4
  refine CallsP_of Tryz.func206 rfl (by rw [Tryz.ntmps206]; simp) ?_
  simp only [Tryz.ntmps206, zM, PT.tv, argEnv, Nat.zero_add, Nat.reduceAdd]
  repeat' (first
 | ((with_reducible show AW _ _ _ _); first
 | (with_reducible first | refine aS (fun K hK => ?_) | refine aI ?_ | refine aT ?_ | refine aC ?_)
 | (first
 | (with_reducible refine aP 0 [0,1,2,3] ?_)
 | ((with_reducible refine aR (c := Code.region 1 _ true) [4,5,6,7] ?_); (with_reducible refine aD ?_ ?_ ?_ ?_); (focus kernel_rfl); (focus kernel_rfl); (focus kernel_rfl))
 | (with_reducible first | refine aP 2 [] ?_ | refine aP 3 [4,5,6,7] ?_)))
 | ((first | (with_reducible refine And.intro ?_ ?_) | (with_reducible refine Need.mk ?_)); focus (first | exact True.intro | (intro _; (with_reducible assumption)) | (simp; done)))
 | (with_reducible refine retK_n ?_)
 | ((with_reducible show condN _ _ _ _ _ _); first
 | ((with_reducible refine condN_t ?_ ?_) <;> (intro hc; (try simp only [zB, zC, reduceCtorEq] at hc); (try (exfalso; contradiction)))))
 | ((with_reducible refine And.intro ?_ ?_); focus ((with_reducible show chkR _ _ _ = true); kernel_rfl))
 | ((with_reducible show callDN _ _ _ _ _ _ _ _ _ _ _ _ _); first
 | (refine callDN_q (k := 204) fnok_204 (turn_p _ _ _ _ _ _ qa qb qc) ?_ ?_)
 | (refine callDN_q (k := 204) fnok_204 (turn_p _ _ _ _ _ _ qa qb qd) ?_ ?_))
 | ((with_reducible show callDGN _ _ _ _ _ _ _ _ _ _ _ _ _); first
 | (refine callDGN_q (k := 204) fnok_204 (fun hg => turn_p _ _ _ _ _ _ qc qd qa) ?_ ?_)
 | (refine callDGN_q (k := 204) fnok_204 (fun hg => turn_p _ _ _ _ _ _ qc qd qb) ?_ ?_))
 | ((with_reducible show callN _ _ _ _ _ _ _ _ _ _); (refine callN_q (k := 212) fnok_212 (on_p _ _ _ _ _ _ qa qc qd) ?_ ?_))
 | ((with_reducible show callGN _ _ _ _ _ _ _ _ _ _); first
 | (refine callGN_q (k := 212) fnok_212 (fun hg => on_p _ _ _ _ _ _ qb qc qd) ?_ ?_)
 | (refine callGN_q (k := 212) fnok_212 (fun hg => on_p _ _ _ _ _ _ qc qa qb) ?_ ?_)
 | (refine callGN_q (k := 212) fnok_212 (fun hg => on_p _ _ _ _ _ _ qd qa qb) ?_ ?_))
 | ((fail_if_success (with_reducible show AW _ _ _ _)); simp (maxSteps := 2000000) only [go_sem, reduceIte, reduceCtorEq, xA, xL, xD, xE, xM, xS, xB, Tryz.f206])
 | ((fail_if_success (with_reducible show AW _ _ _ _)); simp (disch := omega) only [seaWrap, seaDiv, seaMod])
 | ((with_reducible refine hK _ ?_); clear hK K))
  all_goals (unfold meetB; first | (rw [decide_eq_true (by assumption)]; rfl) | (rw [decide_eq_false (by omega)]; simp [Bool.or_assoc]))
def ptI (P : Nat → Nat → Int) (i o : Nat) : IV := .g (.int .i64 (P i o))
def allPt (P : Nat → Nat → Int) (k : Nat) : Prop := ∀ i, i < k → ptB (P i 0) (P i 1) = true
instance (P : Nat → Nat → Int) (k : Nat) : Decidable (allPt P k) := by unfold allPt; infer_instance
theorem valid_p2 (k : Nat) (P : Nat → Nat → Int) (hk : k ≤ 9223372036854775807) : CallsP Tryz.prog 203 [.one (.lst 2 k (ptI P))] (.t (.one (.g (.bool (decide (allPt P k)))))) := by
  refine CallsP_of Tryz.func203 rfl (by rw [Tryz.ntmps203]; simp) ?_
  simp only [Tryz.ntmps203, zM, PT.tv, argEnv, Nat.zero_add, Nat.reduceAdd]
  repeat' (first
 | ((with_reducible show AW _ _ _ _); first
 | (with_reducible first | refine aS (fun K hK => ?_) | refine aI ?_ | refine aX ?_ | refine aT ?_ | refine aC ?_ | refine aB ?_)
 | (first
 | (with_reducible first | refine aP 0 [0] ?_ | refine aP 1 [0] ?_ | refine aP 2 [5,6,7] ?_ | refine aP 3 [5,6,7] ?_ | refine aP 4 [4,5,6,7] ?_ | refine aP 5 [] ?_ | refine aP 6 [5,6,7] ?_ | refine aP 7 [] ?_))
 | ((with_reducible show AW _ (Code.loop _) _ _); first
 | ((with_reducible refine aL (c := (Code.seq (Code.region 2 _ _) _)) (ι := Nat) [5,6] (fun i => [(7, iA .i64 (i : Int))]) (fun i => []) (fun i => i ≤ k ∧ allPt P i) (fun i => k - i) 0 ?lg2 ?l12 ?l22 ?li2 ?lr2); (case' lg2 => rintro i _); (case' li2 => try (exact ⟨Nat.zero_le _, fun i hi => absurd hi (Nat.not_lt_zero _)⟩)); (case' lr2 => rintro i ⟨hi, hai⟩ KR hR2; simp only [keepE, hupd, hset, lk, if_true, if_false, xE, reduceIte, zN]))))
 | ((first | (with_reducible refine And.intro ?_ ?_) | (with_reducible refine Need.mk ?_)); focus (first | exact True.intro | omega))
 | (with_reducible refine retK_n ?_)
 | ((with_reducible show condN _ _ _ _ _ _); first
 | ((with_reducible refine condN_t ?_ ?_) <;> (intro hc; (try simp only [zB, zC, reduceCtorEq] at hc); (try (exfalso; contradiction)))))
 | ((with_reducible show callN _ _ _ _ _ _ _ _ _ _); first
 | (refine callN_q (k := 140) fnok_140 (ptV_p _ _) ?_ ?_))
 | ((with_reducible refine hR2 _ (i + 1) ?_); (try clear hR2 KR))
 | ((with_reducible refine Told.mk ?_); simp only [go_sem, reduceIte, reduceCtorEq, xA, xL, xD, xE, xM, xS, xB, ptI] <;> ((((try simp (disch := omega) only [seaWrap, Int.natCast_add, Int.cast_ofNat_Int, and_true, true_and, and_self]); (repeat' (first | omega | (with_reducible refine And.intro ?_ ?_) | (exact all_succ (by assumption) (by assumption)) )); done))))
 | ((fail_if_success (with_reducible show AW _ _ _ _)); simp (maxSteps := 2000000) only [go_sem, reduceIte, reduceCtorEq, xA, xL, xD, xE, xM, xS, xB, Tryz.f203, ptI])
 | ((with_reducible refine hK _ ?_); clear hK K)
 | (with_reducible apply_assumption -exfalso only [*]))
  all_goals (first | exact (decide_eq_false fun h => by have := h i (by omega); simp_all).symm | exact (decide_eq_true fun j hj => hai j (by omega)).symm)
def f3 (a b c d e f : Int) (i o : Nat) : Int := if i = 0 then (if o = 0 then a else b) else if i = 1 then (if o = 0 then c else d) else (if o = 0 then e else f)
def f4 (a b c d e f g h : Int) (i o : Nat) : Int := if i = 0 then (if o = 0 then a else b) else if i = 1 then (if o = 0 then c else d) else if i = 2 then (if o = 0 then e else f) else (if o = 0 then g else h)
theorem all3 (a b c d e f : Int) : decide (allPt (f3 a b c d e f) 3) = (ptB a b && ptB c d && ptB e f) := by
  refine Bool.eq_iff_iff.2 ?_
  simp only [Bool.and_eq_true, decide_eq_true_eq]
  constructor
  · intro h; exact ⟨⟨h 0 (by omega), h 1 (by omega)⟩, h 2 (by omega)⟩
  · rintro ⟨⟨h0, h1⟩, h2⟩ i hi
    rcases i with _ | _ | _ | i <;> first | exact h0 | exact h1 | exact h2 | omega
theorem all4 (a b c d e f g h : Int) : decide (allPt (f4 a b c d e f g h) 4) = (ptB a b && ptB c d && ptB e f && ptB g h) := by
  refine Bool.eq_iff_iff.2 ?_
  simp only [Bool.and_eq_true, decide_eq_true_eq]
  constructor
  · intro h; exact ⟨⟨⟨h 0 (by omega), h 1 (by omega)⟩, h 2 (by omega)⟩, h 3 (by omega)⟩
  · rintro ⟨⟨⟨h0, h1⟩, h2⟩, h3⟩ i hi
    rcases i with _ | _ | _ | _ | i <;> first | exact h0 | exact h1 | exact h2 | exact h3 | omega
theorem v3_p (a b c d e f : Int) {F : Nat → Nat → IV} (hF : ∀ i o, i < 3 → o < 2 → (F i o).eqv (ptI (f3 a b c d e f) i o)) : CallsP Tryz.prog 203 [.one (.lst 2 3 F)] (.t (.one (.g (.bool (ptB a b && ptB c d && ptB e f))))) := by
  have h := valid_p2 3 (f3 a b c d e f) (by omega)
  rw [all3] at h
  exact h.eqv ⟨⟨rfl, rfl, hF⟩, trivial⟩ (PV.eqv_refl _)
theorem v4_p (a b c d e f g k : Int) {F : Nat → Nat → IV} (hF : ∀ i o, i < 4 → o < 2 → (F i o).eqv (ptI (f4 a b c d e f g k) i o)) : CallsP Tryz.prog 203 [.one (.lst 2 4 F)] (.t (.one (.g (.bool (ptB a b && ptB c d && ptB e f && ptB g k))))) := by
  have h := valid_p2 4 (f4 a b c d e f g k) (by omega)
  rw [all4] at h
  exact h.eqv ⟨⟨rfl, rfl, hF⟩, trivial⟩ (PV.eqv_refl _)
def tvV (ax ay bx by' cx cy : Int) : Int := if (ptB ax ay && ptB bx by' && ptB cx cy) = true then trn ax ay bx by' cx cy else 0
def tvE (ax ay bx by' cx cy : Int) : Int := if (ptB ax ay && ptB bx by' && ptB cx cy) = true then 0 else 1
theorem Turn_ok (ax ay bx by' cx cy : Int) (hv : (ptB ax ay && ptB bx by' && ptB cx cy) = true) : CallsP Tryz.prog 190 [.agg [.g (.int .i64 (ax)), .g (.int .i64 (ay))], .agg [.g (.int .i64 (bx)), .g (.int .i64 (by'))], .agg [.g (.int .i64 (cx)), .g (.int .i64 (cy))]] (.tup [.one (.g (.int .i64 (trn ax ay bx by' cx cy))), .one (.g (.int .i64 (0)))]) := by
  have q1 : ptB ax ay = true := by simp only [Bool.and_eq_true] at hv; exact hv.1.1
  have q2 : ptB bx by' = true := by simp only [Bool.and_eq_true] at hv; exact hv.1.2
  have q3 : ptB cx cy = true := by simp only [Bool.and_eq_true] at hv; exact hv.2
  refine CallsP_of Tryz.func190 rfl (by rw [Tryz.ntmps190]; simp) ?_
  simp only [Tryz.ntmps190, zM, PT.tv, argEnv, Nat.zero_add, Nat.reduceAdd]
  repeat' (first
 | ((with_reducible show callN _ _ _ _ _ _ _ _ _ _); first
 | ((refine callN_q (k := 203) fnok_203 (v3_p ax ay bx by' cx cy ?_) ?_ ?_); (focus (intro i o hi ho; rcases i with _ | _ | _ | _ | i <;> first | omega | (rcases o with _ | _ | o <;> first | omega | exact IV.eqv_refl _))))
 | (refine callN_q (k := 204) fnok_204 (turn_p _ _ _ _ _ _ q1 q2 q3) ?_ ?_))
 | ((with_reducible show AW _ _ _ _); first
 | (with_reducible first | refine aS (fun K hK => ?_) | refine aI ?_ | refine aT ?_ | refine aC ?_)
 | (first
 | (with_reducible first | refine aP 0 [0,1,2] ?_ | refine aP 1 [3,4,5] ?_ | refine aP 3 [3,4,5] ?_)))
 | (((with_reducible refine Need.mk ?_)); focus (exact True.intro))
 | (with_reducible refine retK_n ?_)
 | ((with_reducible show condN _ _ _ _ _ _); first
 | ((with_reducible refine condN_t ?_ ?_) <;> (intro hc; (try simp only [zB, zC, reduceCtorEq] at hc); (try (exfalso; contradiction)))))
 | ((fail_if_success (with_reducible show AW _ _ _ _)); simp (maxSteps := 2000000) only [go_sem, reduceIte, reduceCtorEq, xA, xL, xD, xE, xM, xS, xB, Tryz.f190, hv, Bool.not_true])
 | ((with_reducible refine hK _ ?_); clear hK K))
theorem Turn_no (ax ay bx by' cx cy : Int) (hv : (ptB ax ay && ptB bx by' && ptB cx cy) = false) : CallsP Tryz.prog 190 [.agg [.g (.int .i64 (ax)), .g (.int .i64 (ay))], .agg [.g (.int .i64 (bx)), .g (.int .i64 (by'))], .agg [.g (.int .i64 (cx)), .g (.int .i64 (cy))]] (.tup [.one (.g (.int .i64 (0))), .one (.g (.int .i64 (1)))]) := by
  refine CallsP_of Tryz.func190 rfl (by rw [Tryz.ntmps190]; simp) ?_
  simp only [Tryz.ntmps190, zM, PT.tv, argEnv, Nat.zero_add, Nat.reduceAdd]
  repeat' (first
 | ((with_reducible show callN _ _ _ _ _ _ _ _ _ _); first
 | ((refine callN_q (k := 203) fnok_203 (v3_p ax ay bx by' cx cy ?_) ?_ ?_); (focus (intro i o hi ho; rcases i with _ | _ | _ | _ | i <;> first | omega | (rcases o with _ | _ | o <;> first | omega | exact IV.eqv_refl _)))))
 | ((with_reducible show AW _ _ _ _); first
 | (with_reducible first | refine aS (fun K hK => ?_) | refine aT ?_ | refine aC ?_)
 | (first
 | (with_reducible first | refine aP 0 [0,1,2] ?_ | refine aP 1 [3,4,5] ?_ | refine aP 2 [] ?_)))
 | (((with_reducible refine Need.mk ?_)); focus (exact True.intro))
 | (with_reducible refine retK_n ?_)
 | ((with_reducible show condN _ _ _ _ _ _); first
 | ((with_reducible refine condN_t ?_ ?_) <;> (intro hc; (try simp only [zB, zC, reduceCtorEq] at hc); (try (exfalso; contradiction)))))
 | ((fail_if_success (with_reducible show AW _ _ _ _)); simp (maxSteps := 2000000) only [go_sem, reduceIte, reduceCtorEq, xA, xL, xD, xE, xM, xS, xB, Tryz.f190, hv, Bool.not_false])
 | ((with_reducible refine hK _ ?_); clear hK K))
theorem Turn_p (ax ay bx by' cx cy : Int) : CallsP Tryz.prog 190 [.agg [.g (.int .i64 (ax)), .g (.int .i64 (ay))], .agg [.g (.int .i64 (bx)), .g (.int .i64 (by'))], .agg [.g (.int .i64 (cx)), .g (.int .i64 (cy))]] (.tup [.one (.g (.int .i64 (tvV ax ay bx by' cx cy))), .one (.g (.int .i64 (tvE ax ay bx by' cx cy)))]) := by
  unfold tvV tvE
  cases hv : (ptB ax ay && ptB bx by' && ptB cx cy) with
  | true => exact Turn_ok ax ay bx by' cx cy hv
  | false => exact Turn_no ax ay bx by' cx cy hv
def mvB (ax ay bx by' cx cy dx dy : Int) : Bool := if (ptB ax ay && ptB bx by' && ptB cx cy && ptB dx dy) = true then meetB ax ay bx by' cx cy dx dy else false
def mvE (ax ay bx by' cx cy dx dy : Int) : Int := if (ptB ax ay && ptB bx by' && ptB cx cy && ptB dx dy) = true then 0 else 1
theorem Meet_ok (ax ay bx by' cx cy dx dy : Int) (hv : (ptB ax ay && ptB bx by' && ptB cx cy && ptB dx dy) = true) : CallsP Tryz.prog 192 [.agg [.g (.int .i64 (ax)), .g (.int .i64 (ay))], .agg [.g (.int .i64 (bx)), .g (.int .i64 (by'))], .agg [.g (.int .i64 (cx)), .g (.int .i64 (cy))], .agg [.g (.int .i64 (dx)), .g (.int .i64 (dy))]] (.tup [.one (.g (.bool (meetB ax ay bx by' cx cy dx dy))), .one (.g (.int .i64 (0)))]) := by
  simp only [Bool.and_eq_true] at hv
  obtain ⟨⟨⟨q1, q2⟩, q3⟩, q4⟩ := hv
  have hv : (ptB ax ay && ptB bx by' && ptB cx cy && ptB dx dy) = true := by rw [q1, q2, q3, q4]; rfl
  refine CallsP_of Tryz.func192 rfl (by rw [Tryz.ntmps192]; simp) ?_
  simp only [Tryz.ntmps192, zM, PT.tv, argEnv, Nat.zero_add, Nat.reduceAdd]
  repeat' (first
 | ((with_reducible show callN _ _ _ _ _ _ _ _ _ _); first
 | ((refine callN_q (k := 203) fnok_203 (v4_p ax ay bx by' cx cy dx dy ?_) ?_ ?_); (focus (intro i o hi ho; rcases i with _ | _ | _ | _ | i <;> first | omega | (rcases o with _ | _ | o <;> first | omega | exact IV.eqv_refl _))))
 | (refine callN_q (k := 206) fnok_206 (meet_p2 _ _ _ _ _ _ _ _ q1 q2 q3 q4) ?_ ?_))
 | ((with_reducible show AW _ _ _ _); first
 | (with_reducible first | refine aS (fun K hK => ?_) | refine aI ?_ | refine aT ?_ | refine aC ?_)
 | (first
 | (with_reducible first | refine aP 0 [0,1,2,3] ?_ | refine aP 1 [4,5,6,7] ?_ | refine aP 3 [4,5,6,7] ?_)))
 | (((with_reducible refine Need.mk ?_)); focus (exact True.intro))
 | (with_reducible refine retK_n ?_)
 | ((with_reducible show condN _ _ _ _ _ _); first
 | ((with_reducible refine condN_t ?_ ?_) <;> (intro hc; (try simp only [zB, zC, reduceCtorEq] at hc); (try (exfalso; contradiction)))))
 | ((fail_if_success (with_reducible show AW _ _ _ _)); simp (maxSteps := 2000000) only [go_sem, reduceIte, reduceCtorEq, xA, xL, xD, xE, xM, xS, xB, Tryz.f192, hv, Bool.not_true])
 | ((with_reducible refine hK _ ?_); clear hK K))
theorem Meet_no (ax ay bx by' cx cy dx dy : Int) (hv : (ptB ax ay && ptB bx by' && ptB cx cy && ptB dx dy) = false) : CallsP Tryz.prog 192 [.agg [.g (.int .i64 (ax)), .g (.int .i64 (ay))], .agg [.g (.int .i64 (bx)), .g (.int .i64 (by'))], .agg [.g (.int .i64 (cx)), .g (.int .i64 (cy))], .agg [.g (.int .i64 (dx)), .g (.int .i64 (dy))]] (.tup [.one (.g (.bool false)), .one (.g (.int .i64 (1)))]) := by
  refine CallsP_of Tryz.func192 rfl (by rw [Tryz.ntmps192]; simp) ?_
  simp only [Tryz.ntmps192, zM, PT.tv, argEnv, Nat.zero_add, Nat.reduceAdd]
  repeat' (first
 | ((with_reducible show callN _ _ _ _ _ _ _ _ _ _); first
 | ((refine callN_q (k := 203) fnok_203 (v4_p ax ay bx by' cx cy dx dy ?_) ?_ ?_); (focus (intro i o hi ho; rcases i with _ | _ | _ | _ | i <;> first | omega | (rcases o with _ | _ | o <;> first | omega | exact IV.eqv_refl _)))))
 | ((with_reducible show AW _ _ _ _); first
 | (with_reducible first | refine aS (fun K hK => ?_) | refine aT ?_ | refine aC ?_)
 | (first
 | (with_reducible first | refine aP 0 [0,1,2,3] ?_ | refine aP 1 [4,5,6,7] ?_ | refine aP 2 [] ?_)))
 | (((with_reducible refine Need.mk ?_)); focus (exact True.intro))
 | (with_reducible refine retK_n ?_)
 | ((with_reducible show condN _ _ _ _ _ _); first
 | ((with_reducible refine condN_t ?_ ?_) <;> (intro hc; (try simp only [zB, zC, reduceCtorEq] at hc); (try (exfalso; contradiction)))))
 | ((fail_if_success (with_reducible show AW _ _ _ _)); simp (maxSteps := 2000000) only [go_sem, reduceIte, reduceCtorEq, xA, xL, xD, xE, xM, xS, xB, Tryz.f192, hv, Bool.not_false])
 | ((with_reducible refine hK _ ?_); clear hK K))
theorem Meet_p (ax ay bx by' cx cy dx dy : Int) : CallsP Tryz.prog 192 [.agg [.g (.int .i64 (ax)), .g (.int .i64 (ay))], .agg [.g (.int .i64 (bx)), .g (.int .i64 (by'))], .agg [.g (.int .i64 (cx)), .g (.int .i64 (cy))], .agg [.g (.int .i64 (dx)), .g (.int .i64 (dy))]] (.tup [.one (.g (.bool (mvB ax ay bx by' cx cy dx dy))), .one (.g (.int .i64 (mvE ax ay bx by' cx cy dx dy)))]) := by
  unfold mvB mvE
  cases hv : (ptB ax ay && ptB bx by' && ptB cx cy && ptB dx dy) with
  | true => exact Meet_ok ax ay bx by' cx cy dx dy hv
  | false => exact Meet_no ax ay bx by' cx cy dx dy hv
end Go.Proofs.YtmnejmpjmniiiaaGreatDoor
set_option maxRecDepth 100000
set_option maxHeartbeats 4000000
namespace Go.Proofs.YtmnejmpjmniiiaaGreatDoor
open Go.RowKit Go.Sea
open Nat renaming reduceAdd → xA, reduceLT → xL, reduceLeDiff → xD, reduceEqDiff → xE, reduceMul → xM, reduceSub → xS, reduceBEq → xB
theorem bo_189 : boD Tryz.prog 189 = false := by kernel_rfl
theorem bo_4 : boD Tryz.prog 4 = true := by kernel_rfl
theorem eq_189 : eqD Tryz.prog 189 = some (true, [.int .i64, .int .i64]) := by kernel_rfl
theorem fnok_186 : fnOk Tryz.prog 186 = true := by kernel_rfl
theorem fnok_187 : fnOk Tryz.prog 187 = true := by kernel_rfl
theorem fnok_207 : fnOk Tryz.prog 207 = true := by kernel_rfl
theorem fnok_208 : fnOk Tryz.prog 208 = true := by kernel_rfl
theorem fo_189 : fieldsOk Tryz.prog 189 = true := by kernel_rfl
theorem fo_62 : fieldsOk Tryz.prog 62 = true := by kernel_rfl
theorem of_189_0 : offOf Tryz.prog 189 0 = some 0 := by kernel_rfl
theorem of_189_1 : offOf Tryz.prog 189 1 = some 1 := by kernel_rfl
theorem pl_62_0 : placeF Tryz.prog 62 0 = some (0, 1) := by kernel_rfl
theorem pl_62_1 : placeF Tryz.prog 62 1 = some (1, 1) := by kernel_rfl
theorem ty_189 : tyD Tryz.prog 189 = some (true, 2) := by kernel_rfl
theorem zc_189 : zeroC Tryz.prog 189 = some [.iv (.g (.int .i64 0)), .iv (.g (.int .i64 0))] := by kernel_rfl
attribute [go_sem] bo_189 bo_4 eq_189 fnok_186 fnok_187 fnok_207 fnok_208 fo_189 fo_62 of_189_0 of_189_1 pl_62_0 pl_62_1 ty_189 zc_189
theorem dir_bd {M x y u v : Int} (h : (-M ≤ x ∧ x ≤ M) ∧ (-M ≤ y ∧ y ≤ M)) (g : (-M ≤ u ∧ u ≤ M) ∧ (-M ≤ v ∧ v ≤ M)) : (-(M * M) ≤ x * v ∧ x * v ≤ M * M) ∧ (-(M * M) ≤ y * u ∧ y * u ≤ M * M) ∧ (-(M * M) ≤ x * u ∧ x * u ≤ M * M) ∧ (-(M * M) ≤ y * v ∧ y * v ≤ M * M) :=
  ⟨mul_bd h.1 g.2, mul_bd h.2 g.1, mul_bd h.1 g.1, mul_bd h.2 g.2⟩
def f2 (a b : Int) (i o : Nat) : IV := .g (.int .i64 (if i = 0 then a else b))
theorem wcross_p (x y u v : Int) (h1 : -4000000000000 ≤ x * v ∧ x * v ≤ 4000000000000) (h2 : -4000000000000 ≤ y * u ∧ y * u ≤ 4000000000000) : CallsP Tryz.prog 208 [.agg [.g (.int .i64 (x)), .g (.int .i64 (y))], .agg [.g (.int .i64 (u)), .g (.int .i64 (v))]] (.t (.one (.g (.int .i64 (x * v - y * u))))) := by
  refine CallsP_of Tryz.func208 rfl (by rw [Tryz.ntmps208]; simp) ?_
  simp only [Tryz.ntmps208, zM, PT.tv, argEnv, Nat.zero_add, Nat.reduceAdd]
  repeat' (first
 | ((with_reducible show AW _ _ _ _); first
 | (with_reducible first | refine aS (fun K hK => ?_) | refine aT ?_)
 | (first
 | (with_reducible first | refine aP 0 [0,1] ?_ | refine aP 1 [2,3] ?_)))
 | (with_reducible refine retK_n ?_)
 | ((fail_if_success (with_reducible show AW _ _ _ _)); simp (maxSteps := 2000000) only [go_sem, reduceIte, reduceCtorEq, xA, xL, xD, xE, xM, xS, xB, Tryz.f208])
 | ((fail_if_success (with_reducible show AW _ _ _ _)); simp (disch := omega) only [seaWrap, seaDiv, seaMod])
 | ((with_reducible refine hK _ ?_); clear hK K))
theorem upper_p (x y : Int) : CallsP Tryz.prog 207 [.agg [.g (.int .i64 (x)), .g (.int .i64 (y))]] (.t (.one (.g (.bool (decide (0 < y ∨ (y = 0 ∧ 0 < x))))))) := by
  refine CallsP_of Tryz.func207 rfl (by rw [Tryz.ntmps207]; simp) ?_
  simp only [Tryz.ntmps207, zM, PT.tv, argEnv, Nat.zero_add, Nat.reduceAdd]
  repeat' (first
 | ((with_reducible show AW _ _ _ _); first
 | (with_reducible first | refine aS (fun K hK => ?_) | refine aT ?_)
 | (first
 | (with_reducible first | refine aP 0 [0] ?_ | refine aP 1 [1] ?_)))
 | (((with_reducible refine And.intro ?_ ?_)); focus (first | (simp; done) | (simp; omega)))
 | (with_reducible refine retK_n ?_)
 | ((fail_if_success (with_reducible show AW _ _ _ _)); simp (maxSteps := 2000000) only [go_sem, reduceIte, reduceCtorEq, xA, xL, xD, xE, xM, xS, xB, Tryz.f207])
 | ((with_reducible refine hK _ ?_); clear hK K))
  all_goals ((try refine Bool.eq_iff_iff.2 ?_); (simp only [Bool.and_eq_true, Bool.or_eq_true, Bool.not_eq_true', decide_eq_true_eq, decide_eq_false_iff_not, bne_iff_ne, beq_iff_eq, ne_eq, ge_iff_le, gt_iff_lt, cond_eq_ite, iff_self, eq_self]; done))
def dirB (x y : Int) : Bool := decide (((-1000000 ≤ x ∧ x ≤ 1000000) ∧ (-1000000 ≤ y ∧ y ≤ 1000000)) ∧ ¬ (x = 0 ∧ y = 0))
theorem wok_p (x y : Int) : CallsP Tryz.prog 193 [.agg [.g (.int .i64 (x)), .g (.int .i64 (y))]] (.t (.one (.g (.bool (dirB x y))))) := by
  refine CallsP_of Tryz.func193 rfl (by rw [Tryz.ntmps193]; simp) ?_
  simp only [Tryz.ntmps193, zM, PT.tv, argEnv, Nat.zero_add, Nat.reduceAdd]
  repeat' (first
 | ((with_reducible show AW _ _ _ _); first
 | (with_reducible first | refine aS (fun K hK => ?_) | refine aT ?_)
 | (first
 | (with_reducible first | refine aP 0 [0] ?_ | refine aP 1 [1] ?_)))
 | (with_reducible refine retK_n ?_)
 | ((fail_if_success (with_reducible show AW _ _ _ _)); simp (maxSteps := 2000000) only [go_sem, reduceIte, reduceCtorEq, xA, xL, xD, xE, xM, xS, xB, Tryz.f193, dirB])
 | ((with_reducible refine hK _ ?_); clear hK K))
  all_goals ((refine Bool.eq_iff_iff.2 ?_; simp only [Bool.and_eq_true, Bool.not_eq_true', Bool.and_eq_false_iff, beq_eq_false_iff_ne, decide_eq_true_eq, ne_eq, ge_iff_le]; omega))
def upB (x y : Int) : Bool := decide (0 < y ∨ (y = 0 ∧ 0 < x))
def cmpW (x y u v : Int) : Int := if upB x y = upB u v then - sgn (x * v - y * u) else if upB x y = true then -1 else 1
theorem cmpW_v (x y u v : Int) : cmpW x y u v = -1 ∨ cmpW x y u v = 0 ∨ cmpW x y u v = 1 := by
  unfold cmpW
  have := sgn_v (x * v - y * u)
  split <;> first | omega | (split <;> omega)
def hasP (fx fy tx ty vx vy : Int) : Bool := if cmpW fx fy tx ty = -1 then decide (cmpW fx fy vx vy ≤ 0) && !decide (cmpW tx ty vx vy ≤ 0) else if cmpW fx fy tx ty = 1 then decide (cmpW fx fy vx vy ≤ 0) || !decide (cmpW tx ty vx vy ≤ 0) else true
theorem cmpW_p (x y u v : Int) (h1 : -4000000000000 ≤ x * v ∧ x * v ≤ 4000000000000) (h2 : -4000000000000 ≤ y * u ∧ y * u ≤ 4000000000000) : CallsP Tryz.prog 194 [.agg [.g (.int .i64 (x)), .g (.int .i64 (y))], .agg [.g (.int .i64 (u)), .g (.int .i64 (v))]] (.t (.one (.g (.int .i64 (cmpW x y u v))))) := by
  refine CallsP_of Tryz.func194 rfl (by rw [Tryz.ntmps194]; simp) ?_
  simp only [Tryz.ntmps194, zM, PT.tv, argEnv, Nat.zero_add, Nat.reduceAdd]
  repeat' (first
 | ((with_reducible show AW _ _ _ _); first
 | (with_reducible first | refine aS (fun K hK => ?_) | refine aI ?_ | refine aT ?_ | refine aC ?_ | refine aB ?_)
 | (first
 | (with_reducible refine aP 0 [0,1] ?_)
 | ((with_reducible refine aR (c := Code.region 1 _ true) [2,3] ?_); (with_reducible refine aD ?_ ?_ ?_ ?_); (focus kernel_rfl); (focus kernel_rfl); (focus kernel_rfl))
 | (with_reducible first | refine aP 2 [2] ?_ | refine aP 3 [] ?_ | refine aP 4 [] ?_ | refine aP 5 [2,3] ?_ | refine aP 6 [] ?_ | refine aP 7 [2,3] ?_ | refine aP 8 [] ?_ | refine aP 9 [] ?_)))
 | ((first | (with_reducible refine And.intro ?_ ?_) | (with_reducible refine Need.mk ?_)); focus (exact True.intro))
 | (with_reducible refine retK_n ?_)
 | ((with_reducible show condN _ _ _ _ _ _); first
 | ((with_reducible refine condN_t ?_ ?_) <;> (intro hc; (try simp only [zB, zC, reduceCtorEq] at hc); (try (exfalso; contradiction)))))
 | ((with_reducible refine And.intro ?_ ?_); focus ((with_reducible show chkR _ _ _ = true); kernel_rfl))
 | ((with_reducible show callN _ _ _ _ _ _ _ _ _ _); first
 | (refine callN_q (k := 207) fnok_207 (upper_p x y) ?_ ?_)
 | (refine callN_q (k := 208) fnok_208 (wcross_p x y u v h1 h2) ?_ ?_))
 | ((with_reducible show callDN _ _ _ _ _ _ _ _ _ _ _ _ _); first
 | (refine callDN_q (k := 207) fnok_207 (upper_p x y) ?_ ?_)
 | (refine callDN_q (k := 207) fnok_207 (upper_p u v) ?_ ?_))
 | ((fail_if_success (with_reducible show AW _ _ _ _)); simp (maxSteps := 2000000) only [go_sem, reduceIte, reduceCtorEq, xA, xL, xD, xE, xM, xS, xB, Tryz.f194])
 | ((with_reducible refine hK _ ?_); clear hK K))
  all_goals (first | (unfold cmpW upB sgn; simp_all; done) | (rw [cmpW, if_neg (by simp only [upB]; assumption), if_pos (by simp only [upB, decide_eq_true_eq]; assumption)]) | (rw [cmpW, if_neg (by simp only [upB]; assumption), if_neg (by simp only [upB, decide_eq_true_eq]; assumption)]) | (rw [cmpW, if_pos (by simp only [upB]; assumption)]; unfold sgn; (repeat' split) <;> omega))
end Go.Proofs.YtmnejmpjmniiiaaGreatDoor
namespace Go.Proofs.YtmnejmpjmniiiaaGreatDoor.Ph
def up (x y : Int) : Prop := 0 < y ∨ (y = 0 ∧ 0 < x)
end Go.Proofs.YtmnejmpjmniiiaaGreatDoor.Ph
set_option maxRecDepth 100000
set_option maxHeartbeats 4000000
namespace Go.Proofs.YtmnejmpjmniiiaaGreatDoor
open Go.RowKit Go.Sea
open Nat renaming reduceAdd → xA, reduceLT → xL, reduceLeDiff → xD, reduceEqDiff → xE, reduceMul → xM, reduceSub → xS, reduceBEq → xB
theorem ar_64 : arD Tryz.prog 64 = none := by kernel_rfl
theorem fnok_166 : fnOk Tryz.prog 166 = true := by kernel_rfl
theorem fnok_167 : fnOk Tryz.prog 167 = true := by kernel_rfl
theorem fnok_157 : fnOk Tryz.prog 157 = true := by kernel_rfl
theorem fnok_158 : fnOk Tryz.prog 158 = true := by kernel_rfl
theorem fnok_193 : fnOk Tryz.prog 193 = true := by kernel_rfl
theorem fnok_194 : fnOk Tryz.prog 194 = true := by kernel_rfl
theorem fnok_185 : fnOk Tryz.prog 185 = true := by kernel_rfl
theorem le_64 : lenD Tryz.prog 64 = some true := by kernel_rfl
theorem of_151_0 : offOf Tryz.prog 151 0 = some 0 := by kernel_rfl
theorem of_151_1 : offOf Tryz.prog 151 1 = some 2 := by kernel_rfl
theorem of_151_2 : offOf Tryz.prog 151 2 = some 4 := by kernel_rfl
theorem of_151_3 : offOf Tryz.prog 151 3 = some 5 := by kernel_rfl
theorem sl_64 : slD Tryz.prog 64 = some (6, 48, 151) := by kernel_rfl
theorem ty_151 : tyD Tryz.prog 151 = some (true, 6) := by kernel_rfl
theorem zc_151 : zeroC Tryz.prog 151 = some [.iv (.g (.int .i64 0)), .iv (.g (.int .i64 0)), .iv (.g (.int .i64 0)), .iv (.g (.int .i64 0)), .iv (.g (.int .i64 0)), .iv (.g (.int .i64 0))] := by kernel_rfl
attribute [go_sem] ar_64 fnok_166 fnok_167 fnok_157 fnok_158 fnok_193 fnok_194 fnok_185 le_64 of_151_0 of_151_1 of_151_2 of_151_3 sl_64 ty_151 zc_151
def secB (a b c d k r : Int) : Bool := decide (dirB a b = true ∧ dirB c d = true ∧ (1 ≤ k ∧ k ≤ 3) ∧ (1 ≤ r ∧ r ≤ 3000000))
def secI (S : Nat → Nat → Int) (i : Nat) : Bool := secB (S i 0) (S i 1) (S i 2) (S i 3) (S i 4) (S i 5)
def hasI (S : Nat → Nat → Int) (i j : Nat) : Bool := hasP (S i 0) (S i 1) (S i 2) (S i 3) (S j 0) (S j 1)
def secsO (S : Nat → Nat → Int) (i : Nat) : Prop := secI S i = true ∧ ∀ j, j < i → hasI S i j = false ∧ hasI S j i = false
instance (S : Nat → Nat → Int) (i : Nat) : Decidable (secsO S i) := by unfold secsO; infer_instance
def secsB (n : Nat) (S : Nat → Nat → Int) : Bool := decide (n ≤ 12 ∧ ∀ i, i < n → secsO S i)
theorem secs_f1 {n : Nat} {S : Nat → Nat → Int} {i : Nat} (hi : (i : Int) < n) (h : secB (S i 0) (S i 1) (S i 2) (S i 3) (S i 4) (S i 5) = false) : false = secsB n S :=
  (decide_eq_false fun g => by have := (g.2 i (by omega)).1; unfold secI at this; rw [h] at this; cases this).symm
theorem secs_f2 {n : Nat} {S : Nat → Nat → Int} {i j : Nat} (hi : (i : Int) < n) (hj : (j : Int) < i) (h : hasP (S i 0) (S i 1) (S i 2) (S i 3) (S j 0) (S j 1) = true) : false = secsB n S :=
  (decide_eq_false fun g => by have := ((g.2 i (by omega)).2 j (by omega)).1; unfold hasI at this; rw [h] at this; cases this).symm
theorem secs_f3 {n : Nat} {S : Nat → Nat → Int} {i j : Nat} (hi : (i : Int) < n) (hj : (j : Int) < i) (h : hasP (S j 0) (S j 1) (S j 2) (S j 3) (S i 0) (S i 1) = true) : false = secsB n S :=
  (decide_eq_false fun g => by have := ((g.2 i (by omega)).2 j (by omega)).2; unfold hasI at this; rw [h] at this; cases this).symm
theorem secs_t {n i : Nat} {S : Nat → Nat → Int} (hi : i ≤ n) (h : (n : Int) ≤ i) (g : ∀ i', i' < i → secsO S i') : decide ((n : Int) ≤ 12) = secsB n S := by
  unfold secsB; refine decide_eq_decide.2 ⟨fun k => ⟨by omega, fun j hj => g j (by omega)⟩, fun k => by omega⟩
theorem sec_1 {a b c d k r : Int} (h : secB a b c d k r = true) : dirB a b = true := (of_decide_eq_true h).1
theorem sec_2 {a b c d k r : Int} (h : secB a b c d k r = true) : dirB c d = true := (of_decide_eq_true h).2.1
theorem ghas_p (x y u v p q z w : Int) (d1 : dirB x y = true) (d2 : dirB u v = true) (d3 : dirB z w = true) : CallsP Tryz.prog 167 [.agg [.g (.int .i64 (x)), .g (.int .i64 (y)), .g (.int .i64 (u)), .g (.int .i64 (v)), .g (.int .i64 (p)), .g (.int .i64 (q))], .agg [.g (.int .i64 (z)), .g (.int .i64 (w))]] (.t (.one (.g (.bool (hasP x y u v z w))))) := by
  simp only [dirB, decide_eq_true_eq] at d1 d2 d3
  have k1 := dir_bd (M := 1000000) d1.1 d2.1
  have k2 := dir_bd (M := 1000000) d1.1 d3.1
  have k3 := dir_bd (M := 1000000) d2.1 d3.1
  have v1 := cmpW_v x y u v
  refine CallsP_of Tryz.func167 rfl (by rw [Tryz.ntmps167]; simp) ?_
  simp only [Tryz.ntmps167, zM, PT.tv, argEnv, Nat.zero_add, Nat.reduceAdd]
  repeat' (first
 | ((with_reducible show AW _ _ _ _); first
 | (with_reducible first | refine aS (fun K hK => ?_) | refine aI ?_ | refine aT ?_ | refine aC ?_ | refine aB ?_)
 | (first
 | (with_reducible refine aP 0 [0,1] ?_)
 | ((with_reducible refine aR (c := Code.region 1 _ true) [2,3] ?_); (with_reducible refine aD ?_ ?_ ?_ ?_); (focus kernel_rfl); (focus kernel_rfl); (focus kernel_rfl))
 | ((with_reducible refine aR (c := Code.region 2 _ true) [3,5,6] ?_); (with_reducible refine aD ?_ ?_ ?_ ?_); (focus kernel_rfl); (focus kernel_rfl); (focus kernel_rfl))
 | (with_reducible first | refine aP 3 [5,6,7,8] ?_ | refine aP 4 [7,8,23] ?_ | refine aP 5 [7,8] ?_ | refine aP 6 [7,8,23] ?_ | refine aP 7 [7,8] ?_ | refine aP 8 [] ?_)))
 | ((first | (with_reducible refine And.intro ?_ ?_) | (with_reducible refine Need.mk ?_)); focus (first | exact True.intro | (simp; done)))
 | (with_reducible refine retK_n ?_)
 | ((with_reducible show condN _ _ _ _ _ _); first
 | ((with_reducible refine condN_t ?_ ?_) <;> (intro hc; (try simp only [zB, zC, reduceCtorEq] at hc); (try (exfalso; contradiction)))))
 | ((with_reducible refine And.intro ?_ ?_); focus ((with_reducible show chkR _ _ _ = true); kernel_rfl))
 | ((with_reducible show callN _ _ _ _ _ _ _ _ _ _); (refine callN_q (k := 194) fnok_194 (cmpW_p x y u v (by omega) (by omega)) ?_ ?_))
 | ((with_reducible show callDN _ _ _ _ _ _ _ _ _ _ _ _ _); first
 | (refine callDN_q (k := 194) fnok_194 (cmpW_p x y z w (by omega) (by omega)) ?_ ?_)
 | (refine callDN_q (k := 194) fnok_194 (cmpW_p u v z w (by omega) (by omega)) ?_ ?_))
 | ((fail_if_success (with_reducible show AW _ _ _ _)); simp (maxSteps := 2000000) only [go_sem, reduceIte, reduceCtorEq, xA, xL, xD, xE, xM, xS, xB, Tryz.f167])
 | ((with_reducible refine hK _ ?_); clear hK K))
  all_goals ((unfold hasP; simp_all; done))
theorem sec_p (a b c d k r : Int) : CallsP Tryz.prog 166 [.agg [.g (.int .i64 (a)), .g (.int .i64 (b)), .g (.int .i64 (c)), .g (.int .i64 (d)), .g (.int .i64 (k)), .g (.int .i64 (r))]] (.t (.one (.g (.bool (secB a b c d k r))))) := by
  refine CallsP_of Tryz.func166 rfl (by rw [Tryz.ntmps166]; simp) ?_
  simp only [Tryz.ntmps166, zM, PT.tv, argEnv, Nat.zero_add, Nat.reduceAdd]
  repeat' (first
 | ((with_reducible show AW _ _ _ _); first
 | (with_reducible first | refine aS (fun K hK => ?_) | refine aT ?_)
 | (first
 | (with_reducible first | refine aP 0 [0] ?_ | refine aP 1 [1] ?_)))
 | (((with_reducible refine Need.mk ?_)); focus (first | exact True.intro | (intro _; (with_reducible assumption))))
 | (with_reducible refine retK_n ?_)
 | ((with_reducible show callN _ _ _ _ _ _ _ _ _ _); (refine callN_q (k := 193) fnok_193 (wok_p a b) ?_ ?_))
 | ((with_reducible show callGN _ _ _ _ _ _ _ _ _ _); (refine callGN_q (k := 193) fnok_193 (fun hg => wok_p c d) ?_ ?_))
 | ((fail_if_success (with_reducible show AW _ _ _ _)); simp (maxSteps := 2000000) only [go_sem, reduceIte, reduceCtorEq, xA, xL, xD, xE, xM, xS, xB, Tryz.f166])
 | ((with_reducible refine hK _ ?_); clear hK K))
  all_goals ((unfold secB; refine Bool.eq_iff_iff.2 ?_; simp only [Bool.and_eq_true, decide_eq_true_eq, ge_iff_le, and_assoc]; done))
theorem Secs_p (n : Nat) (S : Nat → Nat → Int) (hn : n ≤ 9223372036854775807) : CallsP Tryz.prog 143 [.one (.lst 6 n (ptI S))] (.t (.one (.g (.bool (secsB n S))))) := by
  refine CallsP_of Tryz.func143 rfl (by rw [Tryz.ntmps143]; simp) ?_
  simp only [Tryz.ntmps143, zM, PT.tv, argEnv, Nat.zero_add, Nat.reduceAdd]
  repeat' (first
 | ((with_reducible show AW _ _ _ _); first
 | (with_reducible first | refine aS (fun K hK => ?_) | refine aI ?_ | refine aX ?_ | refine aT ?_ | refine aC ?_ | refine aB ?_)
 | (first
 | (with_reducible first | refine aP 0 [0] ?_ | refine aP 1 [0] ?_ | refine aP 2 [0,7,8,9] ?_ | refine aP 3 [0,7,8,9] ?_ | refine aP 4 [0,3,4,7,8,9] ?_ | refine aP 5 [] ?_ | refine aP 6 [0,3,4,7,8,9] ?_ | refine aP 7 [0,4,7,8,9,19,20,21] ?_ | refine aP 8 [0,4,7,8,9,19,20,21] ?_ | refine aP 9 [0,4,6,7,8,9,19,20,21] ?_ | refine aP 10 [] ?_ | refine aP 11 [0,4,7,8,9,19,20,21] ?_ | refine aP 12 [0,7,8,9] ?_ | refine aP 13 [0] ?_))
 | ((with_reducible show AW _ (Code.loop _) _ _); first
 | ((with_reducible refine aL (c := (Code.seq (Code.region 2 _ _) _)) (ι := Nat) [0,7,8] (fun i => [(9, iA .i64 (i : Int))]) (fun i => []) (fun i => i ≤ n ∧ (∀ i', i' < i → secsO S i')) (fun i => n - i) 0 ?lg2 ?l12 ?l22 ?li2 ?lr2); (case' lg2 => rintro i _); (case' li2 => try (exact ⟨Nat.zero_le _, fun i hi => absurd hi (Nat.not_lt_zero _)⟩)); (case' lr2 => rintro i ⟨hi, hai⟩ KR hR2; simp only [keepE, hupd, hset, lk, if_true, if_false, xE, reduceIte, zN]))
 | ((with_reducible refine aL (c := (Code.seq (Code.region 7 _ _) _)) (ι := Nat) [0,4,7,8,9,19,20] (fun j => [(21, iA .i64 (j : Int))]) (fun j => []) (fun j => j ≤ i ∧ secI S i = true ∧ (∀ j', j' < j → hasI S i j' = false ∧ hasI S j' i = false)) (fun j => i - j) 0 ?lg7 ?l17 ?l27 ?li7 ?lr7); (case' lg7 => rintro j _); (case' li7 => try (exact ⟨Nat.zero_le _, by assumption, fun i hi => absurd hi (Nat.not_lt_zero _)⟩)); (case' lr7 => rintro j ⟨hj, hsi, haj⟩ KR hR7; simp only [keepE, hupd, hset, lk, if_true, if_false, xE, reduceIte, zN]))))
 | ((first | (with_reducible refine And.intro ?_ ?_) | (with_reducible refine Need.mk ?_)); focus (first | exact True.intro | omega | (intro _; (with_reducible assumption)) | (simp; done)))
 | (with_reducible refine retK_n ?_)
 | ((with_reducible show condN _ _ _ _ _ _); first
 | ((with_reducible refine condN_t ?_ ?_) <;> (intro hc; (try simp only [zB, zC, reduceCtorEq] at hc); (try (exfalso; contradiction)))))
 | ((with_reducible show callN _ _ _ _ _ _ _ _ _ _); first
 | (refine callN_q (k := 166) fnok_166 (sec_p _ _ _ _ _ _) ?_ ?_)
 | (refine callN_q (k := 167) fnok_167 (ghas_p _ _ _ _ _ _ _ _ (sec_1 hsi) (sec_2 hsi) (sec_1 (hai _ (by omega)).1)) ?_ ?_))
 | ((with_reducible show callGN _ _ _ _ _ _ _ _ _ _); (refine callGN_q (k := 167) fnok_167 (fun hg => ghas_p _ _ _ _ _ _ _ _ (sec_1 (hai _ (by omega)).1) (sec_2 (hai _ (by omega)).1) (sec_1 hsi)) ?_ ?_))
 | ((with_reducible refine hR2 _ (i + 1) ?_); (try clear hR2 KR))
 | ((with_reducible refine hR7 _ (j + 1) ?_); (try clear hR7 KR))
 | ((with_reducible refine Told.mk ?_); simp only [go_sem, reduceIte, reduceCtorEq, xA, xL, xD, xE, xM, xS, xB, ptI] <;> ((((try simp (disch := omega) only [seaWrap, Int.natCast_add, Int.cast_ofNat_Int, and_true, true_and, and_self]); (repeat' (first | omega | (with_reducible refine And.intro ?_ ?_) | (exact all_succ (by assumption) (by assumption)) | ((exact all_succ (by assumption) ⟨by assumption, fun j hj => haj j (by omega)⟩)))); done))))
 | ((fail_if_success (with_reducible show AW _ _ _ _)); simp (maxSteps := 2000000) only [go_sem, reduceIte, reduceCtorEq, xA, xL, xD, xE, xM, xS, xB, Tryz.f143, ptI])
 | ((with_reducible refine hK _ ?_); clear hK K)
 | (with_reducible apply_assumption -exfalso only [*]))
  all_goals (first | exact secs_f1 (by assumption) (by assumption) | exact Or.elim (by assumption) (secs_f2 (by omega) (by omega)) (secs_f3 (by omega) (by omega)) | exact secs_t (by assumption) (by assumption) (by assumption))
end Go.Proofs.YtmnejmpjmniiiaaGreatDoor
set_option maxRecDepth 100000
set_option maxHeartbeats 4000000
namespace Go.Proofs.YtmnejmpjmniiiaaGreatDoor
open Go.RowKit Go.Sea
open Nat renaming reduceAdd → xA, reduceLT → xL, reduceLeDiff → xD, reduceEqDiff → xE, reduceMul → xM, reduceSub → xS, reduceBEq → xB
theorem ar_185 : arD Tryz.prog 185 = none := by kernel_rfl
theorem ar_27 : arD Tryz.prog 27 = none := by kernel_rfl
theorem fnok_189 : fnOk Tryz.prog 189 = true := by kernel_rfl
theorem fnok_190 : fnOk Tryz.prog 190 = true := by kernel_rfl
theorem fnok_181 : fnOk Tryz.prog 181 = true := by kernel_rfl
theorem fnok_182 : fnOk Tryz.prog 182 = true := by kernel_rfl
theorem fnok_183 : fnOk Tryz.prog 183 = true := by kernel_rfl
theorem fnok_202 : fnOk Tryz.prog 202 = true := by kernel_rfl
theorem le_185 : lenD Tryz.prog 185 = some true := by kernel_rfl
theorem le_27 : lenD Tryz.prog 27 = some true := by kernel_rfl
theorem sl_185 : slD Tryz.prog 185 = some (2, 16, 62) := by kernel_rfl
theorem sl_27 : slD Tryz.prog 27 = some (1, 8, 3) := by kernel_rfl
theorem zc_3 : zeroC Tryz.prog 3 = some [.iv (.g (.int .i64 0))] := by kernel_rfl
attribute [go_sem] ar_185 ar_27 fnok_189 fnok_190 fnok_181 fnok_182 fnok_183 fnok_202 le_185 le_27 sl_185 sl_27 zc_3
def orV (a b : Int) : Int := if a = 0 then b else a
def ordV (x y u v : Int) : Int := orV (if x < u then -1 else if u < x then 1 else 0) (if y < v then -1 else if v < y then 1 else 0)
theorem f2_0 (a b : Int) (o : Nat) : f2 a b 0 o = .g (.int .i64 a) := rfl
theorem f2_1 (a b : Int) (o : Nat) : f2 a b 1 o = .g (.int .i64 b) := rfl
theorem ordV_lt (x y u v : Int) : (ordV x y u v ≥ 0) ↔ ¬ (x < u ∨ (x = u ∧ y < v)) := by
  unfold ordV orV
  repeat' split
  all_goals omega
theorem or_p (a b : Int) : CallsP Tryz.prog 189 [.one (.lst 1 2 (f2 a b))] (.t (.one (.g (.int .i64 (orV a b))))) := by
  refine CallsP_of Tryz.func189 rfl (by rw [Tryz.ntmps189]; simp) ?_
  simp only [Tryz.ntmps189, zM, PT.tv, argEnv, Nat.zero_add, Nat.reduceAdd]
  repeat' (first
 | ((with_reducible show AW _ _ _ _); first
 | (with_reducible first | refine aS (fun K hK => ?_) | refine aI ?_ | refine aX ?_ | refine aT ?_ | refine aC ?_ | refine aB ?_)
 | (first
 | (with_reducible first | refine aP 0 [0] ?_ | refine aP 1 [0] ?_ | refine aP 2 [0,3] ?_ | refine aP 3 [3,6,7,8] ?_ | refine aP 4 [3,6,7,8] ?_ | refine aP 5 [3,5,6,7,8] ?_ | refine aP 6 [5] ?_ | refine aP 7 [3,6,7,8] ?_ | refine aP 8 [3] ?_))
 | ((with_reducible show AW _ (Code.loop _) _ _); first
 | ((with_reducible refine aL (c := (Code.seq (Code.region 3 _ _) _)) (ι := Nat) [3,6,7] (fun i => [(8, iA .i64 (i : Int))]) (fun i => []) (fun i => i ≤ 2 ∧ (0 < i → a = 0) ∧ (1 < i → b = 0)) (fun i => 2 - i) 0 ?lg3 ?l13 ?l23 ?li3 ?lr3); (case' lg3 => rintro i _); (case' li3 => try (exact ⟨by omega, by omega, by omega⟩)); (case' lr3 => rintro i ⟨hi, hx1, hx2⟩ KR hR3; (rcases (by omega : i = 0 ∨ i = 1 ∨ i = 2) with hz | hz | hz <;> subst hz); simp only [keepE, hupd, hset, lk, if_true, if_false, xE, reduceIte, zN, f2_0, f2_1]))))
 | (((with_reducible refine And.intro ?_ ?_)); focus (omega))
 | (with_reducible refine retK_n ?_)
 | ((with_reducible show condN _ _ _ _ _ _); first
 | ((with_reducible refine condN_t ?_ ?_) <;> (intro hc; (try simp only [zB, zC, reduceCtorEq] at hc); (try (exfalso; contradiction)))))
 | ((with_reducible refine hR3 _ 1 ?_); (try clear hR3 KR); (with_reducible refine Told.mk ?_); simp only [go_sem, reduceIte, reduceCtorEq, xA, xL, xD, xE, xM, xS, xB, f2_0, f2_1]; ((try simp (disch := omega) only [seaWrap, Int.natCast_add, Int.cast_ofNat_Int, and_true, true_and, and_self]); (repeat' (omega )); done))
 | ((with_reducible refine hR3 _ 2 ?_); (try clear hR3 KR); (with_reducible refine Told.mk ?_); simp only [go_sem, reduceIte, reduceCtorEq, xA, xL, xD, xE, xM, xS, xB, f2_0, f2_1]; (((try simp (disch := omega) only [seaWrap, Int.natCast_add, Int.cast_ofNat_Int, and_true, true_and, and_self]); (repeat' (omega )); done)))
 | ((with_reducible refine Told.mk ?_); simp only [go_sem, reduceIte, reduceCtorEq, xA, xL, xD, xE, xM, xS, xB, f2_0, f2_1] <;> ((((try simp (disch := omega) only [seaWrap, Int.natCast_add, Int.cast_ofNat_Int, and_true, true_and, and_self]); (repeat' (exact True.intro )); done))))
 | ((fail_if_success (with_reducible show AW _ _ _ _)); simp (maxSteps := 2000000) only [go_sem, reduceIte, reduceCtorEq, xA, xL, xD, xE, xM, xS, xB, Tryz.f189, f2_0, f2_1])
 | ((with_reducible refine hK _ ?_); clear hK K)
 | (with_reducible apply_assumption -exfalso only [*]))
  all_goals ((unfold orV; first | (rw [if_pos (by omega)]; omega) | (rw [if_neg (by omega)]) | (split <;> omega)))
theorem or_q (a b : Int) {F : Nat → Nat → IV} (hF : ∀ i o, i < 2 → o < 1 → (F i o).eqv (f2 a b i o)) : CallsP Tryz.prog 189 [.one (.lst 1 2 F)] (.t (.one (.g (.int .i64 (orV a b))))) :=
  (or_p a b).eqv ⟨⟨rfl, rfl, hF⟩, trivial⟩ (PV.eqv_refl _)
theorem order_p (x y u v : Int) : CallsP Tryz.prog 161 [.agg [.g (.int .i64 (x)), .g (.int .i64 (y))], .agg [.g (.int .i64 (u)), .g (.int .i64 (v))]] (.t (.one (.g (.int .i64 (ordV x y u v))))) := by
  refine CallsP_of Tryz.func161 rfl (by rw [Tryz.ntmps161]; simp) ?_
  simp only [Tryz.ntmps161, zM, PT.tv, argEnv, Nat.zero_add, Nat.reduceAdd]
  repeat' (first
 | ((with_reducible show callDN _ _ _ _ _ _ _ _ _ _ _ _ _); first
 | ((refine callDN_q (k := 189) fnok_189 (or_q (if x < u then -1 else if u < x then 1 else 0) (if y < v then -1 else if v < y then 1 else 0) ?_) ?_ ?_); (focus (intro i o hi ho; rcases i with _ | _ | i <;> first | omega | (rcases o with _ | o <;> first | omega | exact IV.eqv_refl _))))
 | (refine callDN_q (k := 88) fnok_88 (gcmp_p x u) ?_ ?_)
 | (refine callDN_q (k := 88) fnok_88 (gcmp_p y v) ?_ ?_))
 | ((with_reducible show AW _ _ _ _); first
 | (with_reducible first | refine aS (fun K hK => ?_) | refine aT ?_)
 | (first
 | (with_reducible refine aP 0 [0,1] ?_)
 | ((with_reducible refine aR (c := Code.region 1 _ true) [2,3] ?_); (with_reducible refine aD ?_ ?_ ?_ ?_); (focus kernel_rfl); (focus kernel_rfl); (focus kernel_rfl))))
 | ((first | (with_reducible refine And.intro ?_ ?_) | (with_reducible refine Need.mk ?_)); focus (exact True.intro))
 | (with_reducible refine retK_n ?_)
 | ((with_reducible refine And.intro ?_ ?_); focus ((with_reducible show chkR _ _ _ = true); kernel_rfl))
 | ((fail_if_success (with_reducible show AW _ _ _ _)); simp (maxSteps := 2000000) only [go_sem, reduceIte, reduceCtorEq, xA, xL, xD, xE, xM, xS, xB, Tryz.f161])
 | ((with_reducible refine hK _ ?_); clear hK K))
  all_goals (rfl)
theorem pturn_p (ax ay bx by' cx cy : Int) : CallsP Tryz.prog 162 [.agg [.g (.int .i64 (ax)), .g (.int .i64 (ay))], .agg [.g (.int .i64 (bx)), .g (.int .i64 (by'))], .agg [.g (.int .i64 (cx)), .g (.int .i64 (cy))]] (.t (.one (.g (.int .i64 (tvV ax ay bx by' cx cy))))) := by
  refine CallsP_of Tryz.func162 rfl (by rw [Tryz.ntmps162]; simp) ?_
  simp only [Tryz.ntmps162, zM, PT.tv, argEnv, Nat.zero_add, Nat.reduceAdd]
  repeat' (first
 | ((with_reducible show AW _ _ _ _); first
 | (with_reducible first | refine aS (fun K hK => ?_) | refine aT ?_)
 | (first
 | (with_reducible first | refine aP 0 [0,1,2] ?_ | refine aP 1 [3,4,5] ?_ | refine aP 2 [7] ?_)))
 | (((with_reducible refine Need.mk ?_)); focus (exact True.intro))
 | (with_reducible refine retK_n ?_)
 | ((with_reducible show callN _ _ _ _ _ _ _ _ _ _); first
 | (refine callN_q (k := 190) fnok_190 (Turn_p _ _ _ _ _ _) ?_ ?_))
 | ((fail_if_success (with_reducible show AW _ _ _ _)); simp (maxSteps := 2000000) only [go_sem, reduceIte, reduceCtorEq, xA, xL, xD, xE, xM, xS, xB, Tryz.f162])
 | ((with_reducible refine hK _ ?_); clear hK K))
def ixN (n : Nat) (i : Int) : Nat := ((i + n) % n).toNat
theorem corner_p (n : Nat) (P : Nat → Nat → Int) (i : Int) (hn : 0 < n ∧ n ≤ 1000) (hi : -1 ≤ i ∧ i ≤ 1000) : CallsP Tryz.prog 163 [.one (.lst 2 n (ptI P)), .one (.g (.int .i64 (i)))] (.t (.agg [.g (.int .i64 (P (ixN n i) 0)), .g (.int .i64 (P (ixN n i) 1))])) := by
  have hm : 0 ≤ (i + (n : Int)) % (n : Int) ∧ (i + (n : Int)) % (n : Int) < (n : Int) := ⟨Int.emod_nonneg _ (by omega), Int.emod_lt_of_pos _ (by omega)⟩
  refine CallsP_of Tryz.func163 rfl (by rw [Tryz.ntmps163]; simp) ?_
  simp only [Tryz.ntmps163, zM, PT.tv, argEnv, Nat.zero_add, Nat.reduceAdd]
  repeat' (first
 | ((with_reducible show AW _ _ _ _); first
 | (with_reducible first | refine aS (fun K hK => ?_) | refine aT ?_)
 | (first
 | (with_reducible first | refine aP 0 [0,1] ?_ | refine aP 1 [0,1,4] ?_)))
 | (((with_reducible refine And.intro ?_ ?_)); focus (first | (with_reducible assumption) | omega))
 | (with_reducible refine retK_n ?_)
 | ((fail_if_success (with_reducible show AW _ _ _ _)); simp (maxSteps := 2000000) only [go_sem, reduceIte, reduceCtorEq, xA, xL, xD, xE, xM, xS, xB, Tryz.f163, ptI])
 | ((fail_if_success (with_reducible show AW _ _ _ _)); simp (disch := omega) only [seaWrap, seaDiv, seaMod])
 | ((with_reducible refine hK _ ?_); clear hK K))
  all_goals (exact ⟨rfl, rfl⟩)
end Go.Proofs.YtmnejmpjmniiiaaGreatDoor
namespace Go.Proofs.YtmnejmpjmniiiaaGreatDoor
open Go.RowKit Go.Sea
open Nat renaming reduceAdd → xA, reduceLT → xL, reduceLeDiff → xD, reduceEqDiff → xE, reduceMul → xM, reduceSub → xS, reduceBEq → xB
theorem ar_205 : arD Tryz.prog 205 = some (2, 2) := by kernel_rfl
theorem fnok_163 : fnOk Tryz.prog 163 = true := by kernel_rfl
theorem fnok_191 : fnOk Tryz.prog 191 = true := by kernel_rfl
theorem fnok_205 : fnOk Tryz.prog 205 = true := by kernel_rfl
theorem fo_205 : fieldsOk Tryz.prog 205 = true := by kernel_rfl
theorem pl_205_0 : placeF Tryz.prog 205 0 = some (0, 2) := by kernel_rfl
theorem pl_205_1 : placeF Tryz.prog 205 1 = some (2, 2) := by kernel_rfl
theorem sl_205 : slD Tryz.prog 205 = none := by kernel_rfl
theorem ty_185 : tyD Tryz.prog 185 = some (false, 1) := by kernel_rfl
theorem ty_205 : tyD Tryz.prog 205 = some (true, 4) := by kernel_rfl
theorem zc_205 : zeroC Tryz.prog 205 = some [.iv (.g (.int .i64 0)), .iv (.g (.int .i64 0)), .iv (.g (.int .i64 0)), .iv (.g (.int .i64 0))] := by kernel_rfl
attribute [go_sem] ar_205 fnok_163 fnok_191 fo_205 pl_205_0 pl_205_1 sl_205 ty_185 ty_205 zc_205
def nx (n i : Nat) : Nat := ixN n ((i : Int) + 1)
theorem nx_lt {n i : Nat} (h : 0 < n) : nx n i < n := by
  unfold nx ixN
  have h1 := Int.emod_nonneg ((i : Int) + 1 + n) (show (n : Int) ≠ 0 by omega)
  have h2 := Int.emod_lt_of_pos ((i : Int) + 1 + n) (show (0 : Int) < n by omega)
  omega
def twT (P : Nat → Nat → Int) (n i : Nat) : Int := P i 0 * P (nx n i) 1 - P i 1 * P (nx n i) 0
def twF (P : Nat → Nat → Int) (n : Nat) : Nat → Int
  | 0 => 0
  | i + 1 => twF P n i + twT P n i
theorem twF_s (P : Nat → Nat → Int) (n i : Nat) : twF P n (i + 1) = twF P n i + (P i 0 * P (nx n i) 1 - P i 1 * P (nx n i) 0) := rfl
theorem tw_mul {P : Nat → Nat → Int} {n i j : Nat} (h : allPt P n) (hi : i < n) (hj : j < n) : (-1000000000000 ≤ P i 0 * P j 1 ∧ P i 0 * P j 1 ≤ 1000000000000) ∧ (-1000000000000 ≤ P i 1 * P j 0 ∧ P i 1 * P j 0 ≤ 1000000000000) := by
  have a := pt_d.1 (h i hi)
  have b := pt_d.1 (h j hj)
  have h1 := mul_bd (M := 1000000) a.1 b.2
  have h2 := mul_bd (M := 1000000) a.2 b.1
  omega
theorem twF_bd {P : Nat → Nat → Int} {n : Nat} (h : allPt P n) : ∀ i, i ≤ n → -(2000000000000 * (i : Int)) ≤ twF P n i ∧ twF P n i ≤ 2000000000000 * (i : Int)
  | 0, _ => by simp [twF]
  | i + 1, hi => by
    have := twF_bd h i (by omega)
    have t := tw_mul h (show i < n by omega) (nx_lt (n := n) (i := i) (by omega))
    rw [twF_s]; omega
set_option maxRecDepth 100000 in
set_option maxHeartbeats 4000000 in
theorem twice_p (n : Nat) (P : Nat → Nat → Int) (hn : 0 < n ∧ n ≤ 1000) (hp : allPt P n) : CallsP Tryz.prog 165 [.one (.lst 2 n (ptI P))] (.t (.one (.g (.int .i64 (twF P n n))))) := by
  have hz : True := trivial
  refine CallsP_of Tryz.func165 rfl (by rw [Tryz.ntmps165]; simp) ?_
  simp only [Tryz.ntmps165, zM, PT.tv, argEnv, Nat.zero_add, Nat.reduceAdd]
  repeat' (first
 | ((with_reducible show AW _ _ _ _); first
 | (with_reducible first | refine aS (fun K hK => ?_) | refine aI ?_ | refine aX ?_ | refine aT ?_ | refine aC ?_ | refine aB ?_)
 | ((refine AW_rangeFuncH (k := 205) rfl Tryz.func205 rfl fnok_205 (by rw [Tryz.ntmps205]; simp) ?_ ?_ (fun l hlne A B hA hB => ?_)); (focus (simp (maxSteps := 2000000) only [go_sem, reduceIte, reduceCtorEq, xA, xL, xD, xE, xM, xS, xB, Tryz.f165, Tryz.f205, Tryz.f191, ptI, twF_s, nx, hz, Int.toNat_one, Int.reduceToNat]; try exact True.intro)); (focus (simp (maxSteps := 2000000) only [go_sem, reduceIte, reduceCtorEq, xA, xL, xD, xE, xM, xS, xB, Tryz.f165, Tryz.f205, Tryz.f191, ptI, twF_s, nx, hz, Int.toNat_one, Int.reduceToNat]; try exact True.intro)); simp only [Tryz.ntmps205, List.map_cons, List.map_nil, LV.tv, argEnv, yV, Nat.zero_add, Nat.reduceAdd]; clear hlne)
 | (with_reducible refine AW_eq (by assumption) ?_)
 | (first
 | (with_reducible first | refine aP (ops := #[⟨some 2, _, _, _, _, _⟩]) 0 [0,9] ?_ | refine aP (ops := #[⟨some 5, _, _, _, _, _⟩, _, _]) 0 [0,1] ?_ | refine aP (ops := #[⟨some 1, _, _, _, _, _⟩, _]) 0 [0] ?_ | refine aP 1 [0,1,5,6,7,9] ?_ | refine aP (ops := #[⟨some 6, _, _, _, _, _⟩, _]) 2 [0,3,9] ?_ | refine aP (ops := #[⟨some 9, _, _, _, _, _⟩, _, _, _, _, _]) 2 [0,1,5,6,7] ?_ | refine aP 3 [3,9] ?_)
 | ((with_reducible refine aR (c := Code.region 3 _ true) [0,1,3,4,5,6,7] ?_); (with_reducible refine AW_regionY 8 ?_ ?_ ?_ ?_ ?_); (focus kernel_rfl); (focus kernel_rfl); (focus kernel_rfl); (focus kernel_rfl))
 | (with_reducible first | refine aP (ops := #[⟨some 10, _, _, _, _, _⟩, _, _, _, _, _, _, _, _, _, _, _, _, _, _, _, _, _]) 4 [3,5,9] ?_ | refine aP (ops := #[⟨some 22, _, _, _, _, _⟩, _]) 4 [0,1,5,6,7] ?_ | refine aP 5 [3] ?_))
 | ((with_reducible show AW _ (Code.loop _) _ _); first
 | ((with_reducible refine aL (c := (Code.seq (Code.region 1 _ _) _)) (ι := Nat) [0,1,5,6] (fun i => [(7, iA .i64 (i : Int))]) (fun i => [(0, [.iv (.g (.int .i64 (twF P n i)))])]) (fun i => i ≤ n) (fun i => n - i) 0 ?lg1 ?l11 ?l21 ?li1 ?lr1); (case' lg1 => rintro i _); (case' li1 => try exact Nat.zero_le _); (case' lr1 => rintro i hi KR hR1; (have hb := twF_bd hp i (by omega); have ht : i < n → _ := fun hi' => tw_mul hp hi' (nx_lt (n := n) (i := i) (by omega)); simp only [nx] at ht; have ht2 := ht); simp only [keepE, hupd, hset, lk, if_true, if_false, xE, reduceIte, zN, twF_s, nx, hz, Int.toNat_one, Int.reduceToNat]))))
 | ((first | (with_reducible refine And.intro ?_ ?_) | (with_reducible refine Need.mk ?_)); focus (first | exact True.intro | omega | (simp (disch := omega) only [Bool.and_eq_true, Bool.or_eq_true, decide_eq_true_eq, bne_iff_ne, ne_eq] at *; omega)))
 | (with_reducible refine retK_n ?_)
 | ((with_reducible show condN _ _ _ _ _ _); first
 | ((with_reducible refine condN_t ?_ ?_) <;> (intro hc; (try simp only [zB, zC, reduceCtorEq] at hc); (try (exfalso; contradiction)))))
 | ((with_reducible show ∀ _ : AS → Prop, _ → _); intro K hK)
 | ((with_reducible refine And.intro ?_ ?_); focus (((with_reducible show chkS _ _ _ _ = true); kernel_rfl)))
 | ((with_reducible show callN _ _ _ _ _ _ _ _ _ _); ((refine callN_i (k := 191) Tryz.func191 rfl fnok_191 (by rw [Tryz.ntmps191]; simp) ?_ ?_ (fun K hK => ?_)); (focus (exact True.intro)); (focus ((simp [lsF]; done))); simp only [Tryz.ntmps191, List.map_cons, List.map_nil, List.nil_append, List.cons_append, List.append_nil, LV.tv, argEnv, Nat.zero_add, Nat.reduceAdd]))
 | ((with_reducible show callDN _ _ _ _ _ _ _ _ _ _ _ _ _); first
 | (refine callDN_q (k := 163) fnok_163 (corner_p n P _ hn (by omega)) ?_ ?_))
 | ((with_reducible refine hR1 _ (i + 1) ?_); (try clear hR1 KR))
 | ((with_reducible refine Told.mk ?_); simp only [go_sem, reduceIte, reduceCtorEq, xA, xL, xD, xE, xM, xS, xB, ptI, twF_s, nx, hz, Int.toNat_one, Int.reduceToNat] <;> ((((try simp (disch := omega) only [seaWrap, Int.natCast_add, Int.cast_ofNat_Int, and_true, true_and, and_self]); (repeat' (first | omega | rfl)); done))))
 | ((fail_if_success (with_reducible show AW _ _ _ _)); simp (maxSteps := 2000000) only [go_sem, reduceIte, reduceCtorEq, xA, xL, xD, xE, xM, xS, xB, Tryz.f165, Tryz.f205, Tryz.f191, ptI, twF_s, nx, hz, Int.toNat_one, Int.reduceToNat])
 | ((fail_if_success (with_reducible show AW _ _ _ _)); simp (disch := omega) only [seaWrap, seaDiv, seaMod])
 | ((with_reducible show callN _ _ _ _ _ _ (.yld _) _ _ _); (refine callN_y (by simp only [lkL, if_true]; exact rfl) ?_ (by simp) ?_ ?_ (fun K hK => ?_)); (focus (exact True.intro)); (focus (simp [ltAll])); (focus ((simp [lsF]; done))); simp only [zipPut, gf, if_true, Nat.reduceAdd])
 | ((with_reducible refine hK _ ?_); clear hK K)
 | (with_reducible apply_assumption -exfalso only [*]))
  all_goals (((obtain rfl : i = n := by omega); rfl))
end Go.Proofs.YtmnejmpjmniiiaaGreatDoor
namespace Go.Proofs.YtmnejmpjmniiiaaGreatDoor
open Go.RowKit Go.Sea
open Nat renaming reduceAdd → xA, reduceLT → xL, reduceLeDiff → xD, reduceEqDiff → xE, reduceMul → xM, reduceSub → xS, reduceBEq → xB
theorem fnok_192 : fnOk Tryz.prog 192 = true := by kernel_rfl
theorem ty_4 : tyD Tryz.prog 4 = some (false, 1) := by kernel_rfl
theorem zc_4 : zeroC Tryz.prog 4 = some [.iv (.g (.bool false))] := by kernel_rfl
attribute [go_sem] fnok_192 ty_4 zc_4
def smP (P : Nat → Nat → Int) (n i k : Nat) : Prop := ((k : Int) ≤ (i : Int) + 1 ∨ ((i : Int) = 0 ∧ (k : Int) = (n : Int) - 1)) ∨ mvB (P i 0) (P i 1) (P (nx n i) 0) (P (nx n i) 1) (P k 0) (P k 1) (P (nx n k) 0) (P (nx n k) 1) = false
instance (P : Nat → Nat → Int) (n i k : Nat) : Decidable (smP P n i k) := by unfold smP; infer_instance
def simB (P : Nat → Nat → Int) (n : Nat) : Bool := decide (∀ i, i < n → ∀ k, k < n → smP P n i k)
theorem simB_f {P : Nat → Nat → Int} {n i k : Nat} (h2 : mvB (P i 0) (P i 1) (P (ixN n ((i : Int) + 1)) 0) (P (ixN n ((i : Int) + 1)) 1) (P k 0) (P k 1) (P (ixN n ((k : Int) + 1)) 0) (P (ixN n ((k : Int) + 1)) 1) = true) (h1 : (i : Int) + 1 < k ∧ ((i : Int) ≠ 0 ∨ (k : Int) ≠ (n : Int) - 1)) (hi : (i : Int) < n) (hk : (k : Int) < n) : false = simB P n := by
  refine (decide_eq_false fun g => ?_).symm
  have t := g i (by omega) k (by omega)
  unfold smP nx at t
  rw [h2] at t
  rcases t with t | t
  · omega
  · cases t
theorem simB_t {P : Nat → Nat → Int} {n i : Nat} (h : (n : Int) ≤ i) (g : ∀ i', i' < i → ∀ k', k' < n → smP P n i' k') : true = simB P n := (decide_eq_true fun j hj k hk => g j (by omega) k hk).symm
set_option maxRecDepth 100000 in
set_option maxHeartbeats 4000000 in
theorem simple_p (n : Nat) (P : Nat → Nat → Int) (hn : 0 < n ∧ n ≤ 1000) : CallsP Tryz.prog 164 [.one (.lst 2 n (ptI P))] (.t (.one (.g (.bool (simB P n))))) := by
  have hz : True := trivial
  refine CallsP_of Tryz.func164 rfl (by rw [Tryz.ntmps164]; simp) ?_
  simp only [Tryz.ntmps164, zM, PT.tv, argEnv, Nat.zero_add, Nat.reduceAdd]
  repeat' (first
 | ((with_reducible show AW _ _ _ _); first
 | (with_reducible first | refine aS (fun K hK => ?_) | refine aI ?_ | refine aX ?_ | refine aT ?_ | refine aC ?_ | refine aB ?_)
 | ((refine AW_rangeFuncH (k := 205) rfl Tryz.func205 rfl fnok_205 (by rw [Tryz.ntmps205]; simp) ?_ ?_ (fun l hlne A B hA hB => ?_)); (focus (simp (maxSteps := 2000000) only [go_sem, reduceIte, reduceCtorEq, xA, xL, xD, xE, xM, xS, xB, Tryz.f164, Tryz.f205, Tryz.f191, ptI, nx, hz, Int.toNat_one, Int.reduceToNat]; try exact True.intro)); (focus (simp (maxSteps := 2000000) only [go_sem, reduceIte, reduceCtorEq, xA, xL, xD, xE, xM, xS, xB, Tryz.f164, Tryz.f205, Tryz.f191, ptI, nx, hz, Int.toNat_one, Int.reduceToNat]; try exact True.intro)); simp only [Tryz.ntmps205, List.map_cons, List.map_nil, LV.tv, argEnv, yV, Nat.zero_add, Nat.reduceAdd]; clear hlne)
 | (with_reducible refine AW_eq (by assumption) ?_)
 | (first
 | (with_reducible first | refine aP 0 [0,1,14,15,18,19] ?_ | refine aP (ops := #[⟨some 10, _, _, _, _, _⟩, _, _, _]) 1 [1,2,14,15,18,19] ?_ | refine aP (ops := #[⟨some 8, _, _, _, _, _⟩]) 1 [0,1,5,6,7] ?_ | refine aP (ops := #[⟨some 3, _, _, _, _, _⟩, _]) 1 [1] ?_ | refine aP (ops := #[⟨some 12, _, _, _, _, _⟩, _]) 2 [1,2,3,14,15,18,19] ?_ | refine aP (ops := #[⟨some 9, _, _, _, _, _⟩, _, _, _, _, _]) 2 [0,1,5,6,7] ?_ | refine aP 3 [1,2,3,14,15,18,19] ?_)
 | ((with_reducible refine aR (c := Code.region 3 _ true) [0,1,3,4,5,6,7] ?_); (with_reducible refine AW_regionY 8 ?_ ?_ ?_ ?_ ?_); (focus kernel_rfl); (focus kernel_rfl); (focus kernel_rfl); (focus kernel_rfl))
 | (with_reducible first | refine aP (ops := #[⟨some 5, _, _, _, _, _⟩, _]) 4 [1,2,3,4,14,15,18,19] ?_ | refine aP (ops := #[⟨some 22, _, _, _, _, _⟩, _]) 4 [0,1,5,6,7] ?_ | refine aP 5 [1,2,3,4,5,14,15,18,19] ?_ | refine aP 6 [1,2,3,4,5,14,15,18,19] ?_ | refine aP 7 [1,2,3,4,5,6,14,15,18,19] ?_ | refine aP 8 [1,2,3,4,5,6,7,14,15,18,19] ?_ | refine aP 9 [1,2,3,4,5,7,14,15,18,19] ?_ | refine aP 10 [1,2,3,4,5,8,14,15,18,19] ?_ | refine aP 11 [2] ?_ | refine aP 12 [2] ?_))
 | ((with_reducible show AW _ (Code.loop _) _ _); first
 | ((have hO := hai; with_reducible refine aL (c := (Code.seq (Code.region 1 _ _) _)) (ι := Nat) [0,1,5,6] (fun k => [(7, iA .i64 (k : Int))]) (fun k => []) (fun k => k ≤ n ∧ (∀ k', k' < k → smP P n i k')) (fun k => n - k) 0 ?lg1b ?l11b ?l21b ?li1b ?lr1b); (case' lg1b => rintro k _); (case' li1b => try (exact ⟨Nat.zero_le _, fun i hi => absurd hi (Nat.not_lt_zero _)⟩)); (case' lr1b => rintro k ⟨hk, hak⟩ KR hR1b; simp only [keepE, hupd, hset, lk, if_true, if_false, xE, reduceIte, zN, nx, hz, Int.toNat_one, Int.reduceToNat]))
 | ((with_reducible refine aL (c := (Code.seq (Code.region 1 _ _) _)) (ι := Nat) [0,1,5,6] (fun i => [(7, iA .i64 (i : Int))]) (fun i => []) (fun i => i ≤ n ∧ (∀ i', i' < i → ∀ k', k' < n → smP P n i' k')) (fun i => n - i) 0 ?lg1a ?l11a ?l21a ?li1a ?lr1a); (case' lg1a => rintro i _); (case' li1a => try (exact ⟨Nat.zero_le _, fun i hi => absurd hi (Nat.not_lt_zero _)⟩)); (case' lr1a => rintro i ⟨hi, hai⟩ KR hR1a; simp only [keepE, hupd, hset, lk, if_true, if_false, xE, reduceIte, zN, nx, hz, Int.toNat_one, Int.reduceToNat]))))
 | ((first | (with_reducible refine And.intro ?_ ?_) | (with_reducible refine Need.mk ?_)); focus (first | exact True.intro | omega | (simp (disch := omega) only [Bool.and_eq_true, Bool.or_eq_true, decide_eq_true_eq, bne_iff_ne, ne_eq] at *; omega) | (simp; done) | (simp; omega)))
 | (with_reducible refine retK_n ?_)
 | ((with_reducible show condN _ _ _ _ _ _); first
 | ((with_reducible refine condN_t ?_ ?_) <;> (intro hc; (try simp only [zB, zC, reduceCtorEq] at hc); (try (exfalso; contradiction)))))
 | ((with_reducible show ∀ _ : AS → Prop, _ → _); intro K hK)
 | ((with_reducible refine And.intro ?_ ?_); focus (((with_reducible show chkS _ _ _ _ = true); kernel_rfl)))
 | ((with_reducible show callN _ _ _ _ _ _ _ _ _ _); first
 | (refine callN_q (k := 192) fnok_192 (Meet_p _ _ _ _ _ _ _ _) ?_ ?_)
 | ((refine callN_i (k := 191) Tryz.func191 rfl fnok_191 (by rw [Tryz.ntmps191]; simp) ?_ ?_ (fun K hK => ?_)); (focus (exact True.intro)); (focus ((simp [lsF]; done))); simp only [Tryz.ntmps191, List.map_cons, List.map_nil, List.nil_append, List.cons_append, List.append_nil, LV.tv, argEnv, Nat.zero_add, Nat.reduceAdd]))
 | ((with_reducible show callDN _ _ _ _ _ _ _ _ _ _ _ _ _); first
 | (refine callDN_q (k := 163) fnok_163 (corner_p n P _ hn (by omega)) ?_ ?_))
 | ((with_reducible refine hR1b _ (k + 1) ?_); (try clear hR1b KR))
 | ((with_reducible refine hR1a _ (i + 1) ?_); (try clear hR1a KR))
 | ((with_reducible refine Told.mk ?_); simp only [go_sem, reduceIte, reduceCtorEq, xA, xL, xD, xE, xM, xS, xB, ptI, nx, hz, Int.toNat_one, Int.reduceToNat] <;> (first | (((try simp (disch := omega) only [seaWrap, Int.natCast_add, Int.cast_ofNat_Int, and_true, true_and, and_self]); (repeat' (first | omega | (with_reducible refine And.intro ?_ ?_) | ((exact all_succ (by assumption) (Or.inl (by omega)))) | ((exact all_succ (by assumption) (Or.inr (by assumption)))))); done)) | (((try simp (disch := omega) only [seaWrap, Int.natCast_add, Int.cast_ofNat_Int, and_true, true_and, and_self]); (repeat' (first | omega | (with_reducible refine And.intro ?_ ?_) | ((exact all_succ (by assumption) (fun k' hk' => hak k' (by omega)))))); done))))
 | ((fail_if_success (with_reducible show AW _ _ _ _)); simp (maxSteps := 2000000) only [go_sem, reduceIte, reduceCtorEq, xA, xL, xD, xE, xM, xS, xB, Tryz.f164, Tryz.f205, Tryz.f191, ptI, nx, hz, Int.toNat_one, Int.reduceToNat])
 | ((fail_if_success (with_reducible show AW _ _ _ _)); simp (disch := omega) only [seaWrap, seaDiv, seaMod])
 | ((with_reducible show callN _ _ _ _ _ _ (.yld _) _ _ _); (refine callN_y (by simp only [lkL, if_true]; exact rfl) ?_ (by simp) ?_ ?_ (fun K hK => ?_)); (focus (exact True.intro)); (focus (simp [ltAll])); (focus ((simp [lsF]; done))); simp only [zipPut, gf, if_true, Nat.reduceAdd])
 | ((with_reducible refine hK _ ?_); clear hK K)
 | (with_reducible apply_assumption -exfalso only [*]))
  all_goals (first | exact simB_f (by assumption) (by assumption) (by assumption) (by assumption) | exact simB_t (by assumption) (by assumption))
end Go.Proofs.YtmnejmpjmniiiaaGreatDoor
namespace Go.Proofs.YtmnejmpjmniiiaaGreatDoor
open Go.RowKit Go.Sea
open Nat renaming reduceAdd → xA, reduceLT → xL, reduceLeDiff → xD, reduceEqDiff → xE, reduceMul → xM, reduceSub → xS, reduceBEq → xB
theorem fnok_128 : fnOk Tryz.prog 128 = true := by kernel_rfl
theorem fnok_152 : fnOk Tryz.prog 152 = true := by kernel_rfl
theorem fnok_153 : fnOk Tryz.prog 153 = true := by kernel_rfl
theorem fnok_155 : fnOk Tryz.prog 155 = true := by kernel_rfl
theorem fnok_156 : fnOk Tryz.prog 156 = true := by kernel_rfl
attribute [go_sem] fnok_128 fnok_152 fnok_153 fnok_155 fnok_156
def ltI (P : Nat → Nat → Int) (i : Nat) : Prop := P 0 0 < P i 0 ∨ (P 0 0 = P i 0 ∧ P 0 1 < P i 1)
instance (P : Nat → Nat → Int) (i : Nat) : Decidable (ltI P i) := by unfold ltI; infer_instance
def polV (P : Nat → Nat → Int) (i : Nat) : Prop := ptB (P i 0) (P i 1) = true ∧ (0 < i → ltI P i)
instance (P : Nat → Nat → Int) (i : Nat) : Decidable (polV P i) := by unfold polV; infer_instance
def nxx2 (n i : Nat) : Nat := (((i : Int) + 2) % (n : Int)).toNat
def trI (P : Nat → Nat → Int) (n i : Nat) : Int := trn (P i 0) (P i 1) (P (nx n i) 0) (P (nx n i) 1) (P (nxx2 n i) 0) (P (nxx2 n i) 1)
def polB (n : Nat) (P : Nat → Nat → Int) : Bool := decide ((3 ≤ n ∧ n ≤ 24) ∧ (∀ i, i < n → polV P i) ∧ (∀ i, i < n → trI P n i ≠ 0) ∧ simB P n = true ∧ 0 < twF P n n)
theorem pol_f0 {n : Nat} {P : Nat → Nat → Int} (h : (n : Int) < 3 ∨ (n : Int) > 24) : false = polB n P := (decide_eq_false fun g => by omega).symm
theorem pol_f1 {n i : Nat} {P : Nat → Nat → Int} (h : ptB (P i 0) (P i 1) = false) (hi : (i : Int) < n) : false = polB n P :=
  (decide_eq_false fun g => by have := (g.2.1 i (by omega)).1; rw [h] at this; cases this).symm
theorem pol_f2 {n i : Nat} {P : Nat → Nat → Int} (h : decide (P 0 0 < P i 0 ∨ (P 0 0 = P i 0 ∧ P 0 1 < P i 1)) = false) (h0 : (i : Int) > 0) (hi : (i : Int) < n) : false = polB n P :=
  (decide_eq_false fun g => by have := (g.2.1 i (by omega)).2 (by omega); unfold ltI at this; rw [decide_eq_false_iff_not] at h; exact h this).symm
theorem pol_f3 {n i : Nat} {P : Nat → Nat → Int} (h : trI P n i = 0) (hi : (i : Int) < n) : false = polB n P := (decide_eq_false fun g => g.2.2.1 i (by omega) h).symm
theorem pol_t {n i j : Nat} {P : Nat → Nat → Int} (hn : 3 ≤ n ∧ n ≤ 24) (hi : (n : Int) ≤ i) (hj : (n : Int) ≤ j) (g : ∀ i', i' < i → polV P i') (g2 : ∀ i', i' < j → trI P n i' ≠ 0) : (simB P n && decide (twF P n n > 0)) = polB n P := by
  refine Bool.eq_iff_iff.2 ?_
  simp only [polB, Bool.and_eq_true, decide_eq_true_eq]
  exact ⟨fun h => ⟨hn, fun k hk => g k (by omega), fun k hk => g2 k (by omega), h.1, h.2⟩, fun h => ⟨h.2.2.2.1, h.2.2.2.2⟩⟩
end Go.Proofs.YtmnejmpjmniiiaaGreatDoor
set_option maxRecDepth 100000
set_option maxHeartbeats 4000000
namespace Go.Proofs.YtmnejmpjmniiiaaGreatDoor
open Go.RowKit Go.Sea
open Nat renaming reduceAdd → xA, reduceLT → xL, reduceLeDiff → xD, reduceEqDiff → xE, reduceMul → xM, reduceSub → xS, reduceBEq → xB
theorem fnok_159 : fnOk Tryz.prog 159 = true := by kernel_rfl
theorem fnok_160 : fnOk Tryz.prog 160 = true := by kernel_rfl
theorem fnok_161 : fnOk Tryz.prog 161 = true := by kernel_rfl
theorem fnok_162 : fnOk Tryz.prog 162 = true := by kernel_rfl
theorem fnok_164 : fnOk Tryz.prog 164 = true := by kernel_rfl
theorem fnok_165 : fnOk Tryz.prog 165 = true := by kernel_rfl
theorem fnok_188 : fnOk Tryz.prog 188 = true := by kernel_rfl
attribute [go_sem] fnok_160 fnok_161 fnok_162 fnok_164 fnok_165 fnok_188
def trJ (P : Nat → Nat → Int) (n i : Nat) : Int := tvV (P (ixN n ((i : Int) - 1)) 0) (P (ixN n ((i : Int) - 1)) 1) (P i 0) (P i 1) (P (ixN n ((i : Int) + 1)) 0) (P (ixN n ((i : Int) + 1)) 1)
theorem nx_val {n i : Nat} (hi : i < n) : nx n i = if i + 1 = n then 0 else i + 1 := by
  unfold nx ixN
  rw [Int.add_emod_right]
  split
  · rw [show (i : Int) + 1 = n by omega, Int.emod_self]; rfl
  · rw [Int.emod_eq_of_lt (by omega) (by omega)]; omega
theorem pv_val {n i : Nat} (hi : i < n) : ixN n ((i : Int) - 1) = if i = 0 then n - 1 else i - 1 := by
  unfold ixN
  split
  · rw [Int.emod_eq_of_lt (by omega) (by omega)]; omega
  · rw [Int.add_emod_right, Int.emod_eq_of_lt (by omega) (by omega)]; omega
theorem nx2_val {n i : Nat} (hn : 3 ≤ n) (hi : i < n) : nxx2 n i = if i + 2 = n then 0 else if i + 1 = n then 1 else i + 2 := by
  unfold nxx2
  split
  · rw [show (i : Int) + 2 = n by omega, Int.emod_self]; rfl
  · split
    · rw [show (i : Int) + 2 = 1 + n by omega, Int.add_emod_right, Int.emod_eq_of_lt (by omega) (by omega)]; rfl
    · rw [Int.emod_eq_of_lt (by omega) (by omega)]; omega
theorem trJ_eq {P : Nat → Nat → Int} {n j : Nat} (hn : 3 ≤ n) (hp : allPt P n) (hj : j < n) : trJ P n j = trI P n (ixN n ((j : Int) - 1)) := by
  have e0 := pv_val hj
  have hi : ixN n ((j : Int) - 1) < n := by rw [e0]; split <;> omega
  have e1 : nx n (ixN n ((j : Int) - 1)) = j := by rw [nx_val hi, e0]; split <;> (split <;> omega)
  have e2 : nxx2 n (ixN n ((j : Int) - 1)) = nx n j := by
    rw [nx2_val hn hi, nx_val hj, e0]; repeat' split
    all_goals omega
  unfold trJ trI tvV
  rw [e1, e2]
  have e3 : ixN n ((j : Int) + 1) = nx n j := rfl
  rw [e3, hp _ hi, hp _ hj, hp _ (nx_lt (n := n) (i := j) (by omega))]; rfl
theorem pv_nx {n i : Nat} (hi : i < n) : ixN n (((nx n i : Nat) : Int) - 1) = i := by
  have h := nx_lt (n := n) (i := i) (by omega)
  rw [pv_val h, nx_val hi]; repeat' split
  all_goals omega
def ordJ (P : Nat → Nat → Int) (i : Nat) : Prop := 0 < i → ordV (P 0 0) (P 0 1) (P i 0) (P i 1) < 0
theorem pol_g1 {P : Nat → Nat → Int} {n i j : Nat} (hn : 3 ≤ (n : Int) ∧ (n : Int) ≤ 24) (haj : ∀ j', j' < j → ptB (P j' 0) (P j' 1) = true) (hj : (n : Int) ≤ j) (hi : (i : Int) < n) (h : ((i : Int) > 0 ∧ ordV (P 0 0) (P 0 1) (P i 0) (P i 1) ≥ 0) ∨ trJ P n i = 0) : false = polB n P := by
  rcases h with h | h
  · exact pol_f2 (decide_eq_false ((ordV_lt _ _ _ _).1 h.2)) h.1 hi
  · rw [trJ_eq (by omega) (fun k hk => haj k (by omega)) (by omega)] at h
    refine pol_f3 h ?_
    have := pv_val (n := n) (i := i) (by omega)
    rw [this]; split <;> omega
theorem pol_g2 {P : Nat → Nat → Int} {n i j : Nat} (hn : 3 ≤ (n : Int) ∧ (n : Int) ≤ 24) (haj : ∀ j', j' < j → ptB (P j' 0) (P j' 1) = true) (hj : (n : Int) ≤ j) (hai : ∀ i', i' < i → ordJ P i' ∧ trJ P n i' ≠ 0) (hi : (n : Int) ≤ i) : (simB P n && decide (twF P n n > 0)) = polB n P := by
  have hp : allPt P n := fun k hk => haj k (by omega)
  refine pol_t (i := n) (j := n) (by omega) (by omega) (by omega) (fun k hk => ⟨hp k hk, fun h0 => ?_⟩) (fun k hk => ?_)
  · have h1 := (hai k (by omega)).1 h0
    have h2 := ordV_lt (P 0 0) (P 0 1) (P k 0) (P k 1)
    unfold ltI
    exact Classical.byContradiction fun g => by have := h2.2 g; omega
  · have hx := nx_lt (n := n) (i := k) (by omega)
    have h1 := (hai (nx n k) (by omega)).2
    rw [trJ_eq (by omega) hp hx, pv_nx hk] at h1
    exact h1
theorem bad_p (x y : Int) : CallsP Tryz.prog 159 [.agg [.g (.int .i64 (x)), .g (.int .i64 (y))]] (.t (.one (.g (.bool (!ptB x y))))) := by
  refine CallsP_of Tryz.func159 rfl (by rw [Tryz.ntmps159]; simp) ?_
  simp only [Tryz.ntmps159, zM, PT.tv, argEnv, Nat.zero_add, Nat.reduceAdd]
  repeat' (first
 | ((with_reducible show AW _ _ _ _); first
 | (with_reducible first | refine aS (fun K hK => ?_) | refine aT ?_)
 | (first
 | (with_reducible first | refine aP 0 [0] ?_ | refine aP 1 [1] ?_)))
 | (((with_reducible refine Need.mk ?_)); focus (exact True.intro))
 | (with_reducible refine retK_n ?_)
 | ((with_reducible show callN _ _ _ _ _ _ _ _ _ _); first
 | (refine callN_q (k := 140) fnok_140 (ptV_p _ _) ?_ ?_))
 | ((fail_if_success (with_reducible show AW _ _ _ _)); simp (maxSteps := 2000000) only [go_sem, reduceIte, reduceCtorEq, xA, xL, xD, xE, xM, xS, xB, Tryz.f159])
 | ((with_reducible refine hK _ ?_); clear hK K))
theorem Pol_p (n : Nat) (P : Nat → Nat → Int) (hn : n ≤ 9223372036854775807) : CallsP Tryz.prog 142 [.one (.lst 2 n (ptI P))] (.t (.one (.g (.bool (polB n P))))) := by
  refine CallsP_of Tryz.func142 rfl (by rw [Tryz.ntmps142]; simp) ?_
  simp only [Tryz.ntmps142, zM, PT.tv, argEnv, Nat.zero_add, Nat.reduceAdd]
  repeat' (first
 | ((with_reducible show AW _ _ _ _); first
 | (with_reducible first | refine aS (fun K hK => ?_) | refine aI ?_ | refine aX ?_ | refine aT ?_ | refine aC ?_ | refine aB ?_)
 | (first
 | (with_reducible first | refine aP 0 [0,1] ?_ | refine aP (ops := #[⟨some 3, _, _, _, _, _⟩]) 1 [0] ?_ | refine aP (ops := #[⟨some 5, _, _, _, _, _⟩, _, _, _, _]) 1 [0,1] ?_ | refine aP (ops := #[⟨some 6, _, _, _, _, _⟩, _, _]) 1 [0,1] ?_ | refine aP (ops := #[⟨some 6, _, _, _, _, _⟩, _, _, _, _, _, _, _, _, _, _, _, _]) 2 [0,3] ?_ | refine aP (ops := #[⟨some 9, _, _, _, _, _⟩]) 2 [0,1,7,8] ?_ | refine aP (ops := #[⟨some 2, _, _, _, _, _⟩]) 3 [] ?_ | refine aP (ops := #[⟨some 10, _, _, _, _, _⟩, _]) 3 [0,1,7,8] ?_ | refine aP (ops := #[⟨some 19, _, _, _, _, _⟩, _]) 4 [0] ?_ | refine aP (ops := #[⟨some 11, _, _, _, _, _⟩, _, _, _, _, _]) 4 [0,1,5,7,8] ?_ | refine aP (ops := #[⟨some 20, _, _, _, _, _⟩, _, _]) 5 [4] ?_ | refine aP (ops := #[⟨some 17, _, _, _, _, _⟩, _]) 5 [5] ?_ | refine aP (ops := #[⟨some 23, _, _, _, _, _⟩]) 6 [4,21,22] ?_ | refine aP (ops := #[⟨some 18, _, _, _, _, _⟩, _]) 6 [0,1,7,8] ?_ | refine aP (ops := #[⟨some 24, _, _, _, _, _⟩, _]) 7 [4,21,22] ?_ | refine aP (ops := #[⟨some 4, _, _, _, _, _⟩]) 7 [] ?_)
 | ((with_reducible refine aR (c := Code.region 8 _ true) [4,5,21,22] ?_); (with_reducible refine aD ?_ ?_ ?_ ?_); (focus kernel_rfl); (focus kernel_rfl); (focus kernel_rfl))
 | (with_reducible first | refine aP 9 [] ?_ | refine aP 10 [4,21,22] ?_ | refine aP 11 [4] ?_))
 | ((with_reducible show AW _ (Code.loop _) _ _); first
 | ((with_reducible refine aL (c := (Code.seq (Code.region 2 _ _) _)) (ι := Nat) [0,1,7] (fun j => [(8, iA .i64 (j : Int))]) (fun j => []) (fun j => j ≤ n ∧ (∀ j', j' < j → ptB (P j' 0) (P j' 1) = true)) (fun j => n - j) 0 ?lg2 ?l12 ?l22 ?li2 ?lr2); (case' lg2 => rintro j _); (case' li2 => try (exact ⟨Nat.zero_le _, fun i hi => absurd hi (Nat.not_lt_zero _)⟩)); (case' lr2 => rintro j ⟨hj, haj⟩ KR hR2; simp only [keepE, hupd, hset, lk, if_true, if_false, xE, reduceIte, zN]))
 | ((with_reducible refine aL (c := (Code.seq (Code.region 6 _ _) _)) (ι := Nat) [4,21] (fun i => [(22, iA .i64 (i : Int))]) (fun i => []) (fun i => i ≤ n ∧ (∀ i', i' < i → ordJ P i' ∧ trJ P n i' ≠ 0)) (fun i => n - i) 0 ?lg6 ?l16 ?l26 ?li6 ?lr6); (case' lg6 => rintro i _); (case' li6 => try (exact ⟨Nat.zero_le _, fun i hi => absurd hi (Nat.not_lt_zero _)⟩)); (case' lr6 => rintro i ⟨hi, hai⟩ KR hR6; simp only [keepE, hupd, hset, lk, if_true, if_false, xE, reduceIte, zN]))))
 | ((first | (with_reducible refine And.intro ?_ ?_) | (with_reducible refine Need.mk ?_)); focus (first | exact True.intro | omega | (intro _; (with_reducible assumption)) | (intros; (repeat' (first | omega | (with_reducible refine And.intro ?_ ?_))); done) | (simp; done) | (simp; omega)))
 | (with_reducible refine retK_n ?_)
 | ((with_reducible show condN _ _ _ _ _ _); first
 | ((with_reducible refine condN_t ?_ ?_) <;> (intro hc; (try simp only [zB, zC, reduceCtorEq] at hc); (try (exfalso; omega)))))
 | ((with_reducible refine And.intro ?_ ?_); focus ((with_reducible show chkR _ _ _ = true); kernel_rfl))
 | ((with_reducible show callN _ _ _ _ _ _ _ _ _ _); first
 | (refine callN_q (k := 159) fnok_159 (bad_p _ _) ?_ ?_)
 | (refine callN_q (k := 164) fnok_164 (simple_p n P (by omega)) ?_ ?_)
 | ((refine callN_i (k := 160) Tryz.func160 rfl fnok_160 (by rw [Tryz.ntmps160]; simp) ?_ ?_ (fun K hK => ?_)); (focus ((simp; omega))); (focus ((simp [lsF]; done))); simp only [Tryz.ntmps160, List.map_cons, List.map_nil, List.nil_append, List.cons_append, List.append_nil, LV.tv, argEnv, Nat.zero_add, Nat.reduceAdd])
 | ((refine callN_i (k := 188) Tryz.func188 rfl fnok_188 (by rw [Tryz.ntmps188]; simp) ?_ ?_ (fun K hK => ?_)); (focus (exact True.intro)); (focus ((simp [lsF]; done))); simp only [Tryz.ntmps188, List.map_cons, List.map_nil, List.nil_append, List.cons_append, List.append_nil, LV.tv, argEnv, Nat.zero_add, Nat.reduceAdd]))
 | ((with_reducible show callDGN _ _ _ _ _ _ _ _ _ _ _ _ _); first
 | (refine callDGN_q (k := 161) fnok_161 (fun hg => order_p _ _ _ _) ?_ ?_)
 | (refine callDGN_q (k := 162) fnok_162 (fun hg => pturn_p _ _ _ _ _ _) ?_ ?_)
 | (refine callDGN_q (k := 163) fnok_163 (fun hg => corner_p n P _ (by omega) (by omega)) ?_ ?_))
 | ((with_reducible show callGN _ _ _ _ _ _ _ _ _ _); first
 | (refine callGN_q (k := 165) fnok_165 (fun hg => twice_p n P (by omega) (fun k hk => haj k (by omega))) ?_ ?_)
 | ((refine callGN_sq (k := 160) ?_ ?_) <;> (intro hc; (try simp only [zB, zC, reduceCtorEq] at hc); (try (exfalso; contradiction)))))
 | ((with_reducible refine hR2 _ (j + 1) ?_); (try clear hR2 KR))
 | ((with_reducible refine hR6 _ (i + 1) ?_); (try clear hR6 KR))
 | ((with_reducible refine Told.mk ?_); simp only [go_sem, reduceIte, reduceCtorEq, xA, xL, xD, xE, xM, xS, xB, ptI] <;> (first | (((try simp (disch := omega) only [seaWrap, Int.natCast_add, Int.cast_ofNat_Int, and_true, true_and, and_self]); (repeat' (first | omega | (with_reducible refine And.intro ?_ ?_) | (exact all_succ (by assumption) (by assumption)) )); done)) | (((try simp (disch := omega) only [seaWrap, Int.natCast_add, Int.cast_ofNat_Int, and_true, true_and, and_self]); (repeat' (first | omega | (with_reducible refine And.intro ?_ ?_) | ((exact all_succ (by assumption) ⟨fun h0 => by omega, by unfold trJ; exact hc.2⟩)))); done))))
 | ((fail_if_success (with_reducible show AW _ _ _ _)); simp (maxSteps := 2000000) only [go_sem, reduceIte, reduceCtorEq, xA, xL, xD, xE, xM, xS, xB, Tryz.f142, Tryz.f160, Tryz.f188, ptI])
 | ((fail_if_success (with_reducible show AW _ _ _ _)); simp (disch := omega) only [seaWrap, seaDiv, seaMod])
 | ((with_reducible refine hK _ ?_); clear hK K)
 | (with_reducible apply_assumption -exfalso only [*]))
  all_goals (first | exact pol_f0 (by assumption) | exact pol_f1 (by assumption) (by assumption) | exact pol_g1 (by assumption) haj (by assumption) (by assumption) hc | exact pol_g2 (by assumption) haj (by assumption) hai hc)
end Go.Proofs.YtmnejmpjmniiiaaGreatDoor
set_option maxRecDepth 100000
set_option maxHeartbeats 4000000
namespace Go.Proofs.YtmnejmpjmniiiaaGreatDoor
open Go.RowKit Go.Sea
open Nat renaming reduceAdd → xA, reduceLT → xL, reduceLeDiff → xD, reduceEqDiff → xE, reduceMul → xM, reduceSub → xS, reduceBEq → xB
theorem bo_151 : boD Tryz.prog 151 = false := by kernel_rfl
theorem bo_62 : boD Tryz.prog 62 = false := by kernel_rfl
theorem eq_151 : eqD Tryz.prog 151 = some (true, [.int .i64, .int .i64, .int .i64, .int .i64, .int .i64, .int .i64]) := by kernel_rfl
theorem eq_62 : eqD Tryz.prog 62 = some (true, [.int .i64, .int .i64]) := by kernel_rfl
attribute [go_sem] bo_151 bo_62 eq_151 eq_62
def eqI (w : Nat) (P Q : Nat → Nat → Int) (i : Nat) : Prop := ∀ o, o < w → P i o = Q i o
def eqLB (w n m : Nat) (P Q : Nat → Nat → Int) : Bool := decide (n = m ∧ ∀ i, i < n → ∀ o, o < w → P i o = Q i o)
theorem eqL_f0 {w n m : Nat} {P Q : Nat → Nat → Int} (h : (n : Int) ≠ m) : false = eqLB w n m P Q := (decide_eq_false fun g => by omega).symm
theorem eqL_t {w n m i : Nat} {P Q : Nat → Nat → Int} (h : (n : Int) = m) (hi : (n : Int) ≤ i) (g : ∀ i', i' < i → eqI w P Q i') : true = eqLB w n m P Q := (decide_eq_true ⟨by omega, fun k hk => g k (by omega)⟩).symm
theorem eqPt_p (n m : Nat) (P Q : Nat → Nat → Int) (hn : n ≤ 9223372036854775807) (hm : m ≤ 9223372036854775807) : CallsP Tryz.prog 200 [.one (.lst 2 n (ptI P)), .one (.lst 2 m (ptI Q))] (.t (.one (.g (.bool (eqLB 2 n m P Q))))) := by
  refine CallsP_of Tryz.func200 rfl (by rw [Tryz.ntmps200]; simp) ?_
  simp only [Tryz.ntmps200, zM, PT.tv, argEnv, Nat.zero_add, Nat.reduceAdd]
  repeat' (first
 | ((with_reducible show AW _ _ _ _); first
 | (with_reducible first | refine aS (fun K hK => ?_) | refine aI ?_ | refine aX ?_ | refine aT ?_ | refine aC ?_ | refine aB ?_)
 | (first
 | (with_reducible first | refine aP 0 [0,1] ?_ | refine aP 1 [0,1] ?_ | refine aP 2 [] ?_ | refine aP 3 [0,1] ?_ | refine aP 4 [0,1,12,13] ?_ | refine aP 5 [0,1,12,13] ?_)
 | ((with_reducible refine aR (c := Code.region 6 _ true) [0,1,5,12,13] ?_); (with_reducible refine aD ?_ ?_ ?_ ?_); (focus kernel_rfl); (focus kernel_rfl); (focus kernel_rfl))
 | (with_reducible first | refine aP 7 [] ?_ | refine aP 8 [0,1,12,13] ?_ | refine aP 9 [] ?_))
 | ((with_reducible show AW _ (Code.loop _) _ _); first
 | ((with_reducible refine aL (c := (Code.seq (Code.region 4 _ _) _)) (ι := Nat) [0,1,12] (fun i => [(13, iA .i64 (i : Int))]) (fun i => []) (fun i => i ≤ n ∧ (∀ i', i' < i → eqI 2 P Q i')) (fun i => n - i) 0 ?lg4 ?l14 ?l24 ?li4 ?lr4); (case' lg4 => rintro i _); (case' li4 => try (exact ⟨Nat.zero_le _, fun i hi => absurd hi (Nat.not_lt_zero _)⟩)); (case' lr4 => rintro i ⟨hi, hai⟩ KR hR4; simp only [keepE, hupd, hset, lk, if_true, if_false, xE, reduceIte, zN, Go.Sea.cmpS]))))
 | (((with_reducible refine And.intro ?_ ?_)); focus (omega))
 | (with_reducible refine retK_n ?_)
 | ((with_reducible show condN _ _ _ _ _ _); first
 | ((with_reducible refine condN_t ?_ ?_) <;> (intro hc; (try simp only [zB, zC, reduceCtorEq] at hc); (try (exfalso; contradiction)))))
 | ((with_reducible refine And.intro ?_ ?_); focus ((with_reducible show chkR _ _ _ = true); kernel_rfl))
 | ((with_reducible refine hR4 _ (i + 1) ?_); (try clear hR4 KR))
 | ((with_reducible refine Told.mk ?_); simp only [go_sem, reduceIte, reduceCtorEq, xA, xL, xD, xE, xM, xS, xB, ptI, Go.Sea.cmpS] <;> ((((try simp (disch := omega) only [seaWrap, Int.natCast_add, Int.cast_ofNat_Int, and_true, true_and, and_self]); (repeat' (first | omega | (with_reducible refine And.intro ?_ ?_) | ((exact all_succ (by assumption) (by (intro o ho; rcases o with _ | _ | o <;> first | omega | (simp_all; done))))))); done))))
 | ((fail_if_success (with_reducible show AW _ _ _ _)); simp (maxSteps := 2000000) only [go_sem, reduceIte, reduceCtorEq, xA, xL, xD, xE, xM, xS, xB, Tryz.f200, ptI, Go.Sea.cmpS])
 | ((with_reducible refine hK _ ?_); clear hK K)
 | (with_reducible apply_assumption -exfalso only [*]))
  all_goals (first | exact eqL_f0 (by omega) | exact eqL_t (by omega) (by omega) hai | (refine (decide_eq_false fun g => ?_).symm; have g2 := g.2 i (by omega); have r0 := g2 0 (by omega); have r1 := g2 1 (by omega); simp_all; done))
theorem reqPt_p (n m : Nat) (P Q : Nat → Nat → Int) (hn : n ≤ 9223372036854775807) (hm : m ≤ 9223372036854775807) : CallsP Tryz.prog 78 [.one (.lst 2 n (ptI P)), .one (.lst 2 m (ptI Q))] (.t (.one (.g (.bool (eqLB 2 n m P Q))))) := by
  refine CallsP_of Tryz.func78 rfl (by rw [Tryz.ntmps78]; simp) ?_
  simp only [Tryz.ntmps78, zM, PT.tv, argEnv, Nat.zero_add, Nat.reduceAdd]
  repeat' (first
 | ((with_reducible show AW _ _ _ _); first
 | (with_reducible first | refine aS (fun K hK => ?_) | refine aI ?_ | refine aX ?_ | refine aT ?_ | refine aC ?_ | refine aB ?_)
 | (first
 | (with_reducible first | refine aP 0 [0,1] ?_ | refine aP 1 [0,1] ?_ | refine aP 2 [] ?_ | refine aP 3 [0,1] ?_ | refine aP 4 [0,1,5] ?_ | refine aP 5 [0,1,5] ?_)
 | ((with_reducible refine aR (c := Code.region 6 _ true) [0,1,5] ?_); (with_reducible refine aD ?_ ?_ ?_ ?_); (focus kernel_rfl); (focus kernel_rfl); (focus kernel_rfl))
 | (with_reducible first | refine aP 7 [] ?_ | refine aP 8 [] ?_))
 | ((with_reducible show AW _ (Code.loop _) _ _); first
 | ((with_reducible refine aL (c := (Code.seq (Code.seq (Code.region 4 _ _) _) _)) (ι := Nat) [0,1] (fun i => [(5, iA .i64 (i : Int))]) (fun i => []) (fun i => i ≤ n ∧ (∀ i', i' < i → eqI 2 P Q i')) (fun i => n - i) 0 ?lg4 ?l14 ?l24 ?li4 ?lr4); (case' lg4 => rintro i _); (case' li4 => try (exact ⟨Nat.zero_le _, fun i hi => absurd hi (Nat.not_lt_zero _)⟩)); (case' lr4 => rintro i ⟨hi, hai⟩ KR hR4; simp only [keepE, hupd, hset, lk, if_true, if_false, xE, reduceIte, zN, Go.Sea.cmpS]))))
 | (((with_reducible refine And.intro ?_ ?_)); focus (omega))
 | (with_reducible refine retK_n ?_)
 | ((with_reducible show condN _ _ _ _ _ _); first
 | ((with_reducible refine condN_t ?_ ?_) <;> (intro hc; (try simp only [zB, zC, reduceCtorEq] at hc); (try (exfalso; contradiction)))))
 | ((with_reducible refine And.intro ?_ ?_); focus ((with_reducible show chkR _ _ _ = true); kernel_rfl))
 | ((with_reducible refine hR4 _ (i + 1) ?_); (try clear hR4 KR))
 | ((with_reducible refine Told.mk ?_); simp only [go_sem, reduceIte, reduceCtorEq, xA, xL, xD, xE, xM, xS, xB, ptI, Go.Sea.cmpS] <;> ((((try simp (disch := omega) only [seaWrap, Int.natCast_add, Int.cast_ofNat_Int, and_true, true_and, and_self]); (repeat' (first | omega | (with_reducible refine And.intro ?_ ?_) | ((exact all_succ (by assumption) (by (intro o ho; rcases o with _ | _ | o <;> first | omega | (simp_all; done))))))); done))))
 | ((fail_if_success (with_reducible show AW _ _ _ _)); simp (maxSteps := 2000000) only [go_sem, reduceIte, reduceCtorEq, xA, xL, xD, xE, xM, xS, xB, Tryz.f78, ptI, Go.Sea.cmpS])
 | ((with_reducible refine hK _ ?_); clear hK K)
 | (with_reducible apply_assumption -exfalso only [*]))
  all_goals (first | exact eqL_f0 (by omega) | exact eqL_t (by omega) (by omega) hai | (refine (decide_eq_false fun g => ?_).symm; have g2 := g.2 i (by omega); have r0 := g2 0 (by omega); have r1 := g2 1 (by omega); simp_all; done))
theorem eqSec_p (n m : Nat) (P Q : Nat → Nat → Int) (hn : n ≤ 9223372036854775807) (hm : m ≤ 9223372036854775807) : CallsP Tryz.prog 201 [.one (.lst 6 n (ptI P)), .one (.lst 6 m (ptI Q))] (.t (.one (.g (.bool (eqLB 6 n m P Q))))) := by
  refine CallsP_of Tryz.func201 rfl (by rw [Tryz.ntmps201]; simp) ?_
  simp only [Tryz.ntmps201, zM, PT.tv, argEnv, Nat.zero_add, Nat.reduceAdd]
  repeat' (first
 | ((with_reducible show AW _ _ _ _); first
 | (with_reducible first | refine aS (fun K hK => ?_) | refine aI ?_ | refine aX ?_ | refine aT ?_ | refine aC ?_ | refine aB ?_)
 | (first
 | (with_reducible first | refine aP 0 [0,1] ?_ | refine aP 1 [0,1] ?_ | refine aP 2 [] ?_ | refine aP 3 [0,1] ?_ | refine aP 4 [0,1,12,13] ?_ | refine aP 5 [0,1,12,13] ?_)
 | ((with_reducible refine aR (c := Code.region 6 _ true) [0,1,5,12,13] ?_); (with_reducible refine aD ?_ ?_ ?_ ?_); (focus kernel_rfl); (focus kernel_rfl); (focus kernel_rfl))
 | (with_reducible first | refine aP 7 [] ?_ | refine aP 8 [0,1,12,13] ?_ | refine aP 9 [] ?_))
 | ((with_reducible show AW _ (Code.loop _) _ _); first
 | ((with_reducible refine aL (c := (Code.seq (Code.region 4 _ _) _)) (ι := Nat) [0,1,12] (fun i => [(13, iA .i64 (i : Int))]) (fun i => []) (fun i => i ≤ n ∧ (∀ i', i' < i → eqI 6 P Q i')) (fun i => n - i) 0 ?lg4 ?l14 ?l24 ?li4 ?lr4); (case' lg4 => rintro i _); (case' li4 => try (exact ⟨Nat.zero_le _, fun i hi => absurd hi (Nat.not_lt_zero _)⟩)); (case' lr4 => rintro i ⟨hi, hai⟩ KR hR4; simp only [keepE, hupd, hset, lk, if_true, if_false, xE, reduceIte, zN, Go.Sea.cmpS]))))
 | (((with_reducible refine And.intro ?_ ?_)); focus (omega))
 | (with_reducible refine retK_n ?_)
 | ((with_reducible show condN _ _ _ _ _ _); first
 | ((with_reducible refine condN_t ?_ ?_) <;> (intro hc; (try simp only [zB, zC, reduceCtorEq] at hc); (try (exfalso; contradiction)))))
 | ((with_reducible refine And.intro ?_ ?_); focus ((with_reducible show chkR _ _ _ = true); kernel_rfl))
 | ((with_reducible refine hR4 _ (i + 1) ?_); (try clear hR4 KR))
 | ((with_reducible refine Told.mk ?_); simp only [go_sem, reduceIte, reduceCtorEq, xA, xL, xD, xE, xM, xS, xB, ptI, Go.Sea.cmpS] <;> ((((try simp (disch := omega) only [seaWrap, Int.natCast_add, Int.cast_ofNat_Int, and_true, true_and, and_self]); (repeat' (first | omega | (with_reducible refine And.intro ?_ ?_) | ((exact all_succ (by assumption) (by (intro o ho; rcases o with _ | _ | _ | _ | _ | _ | o <;> first | omega | (simp_all; done))))))); done))))
 | ((fail_if_success (with_reducible show AW _ _ _ _)); simp (maxSteps := 2000000) only [go_sem, reduceIte, reduceCtorEq, xA, xL, xD, xE, xM, xS, xB, Tryz.f201, ptI, Go.Sea.cmpS])
 | ((with_reducible refine hK _ ?_); clear hK K)
 | (with_reducible apply_assumption -exfalso only [*]))
  all_goals (first | exact eqL_f0 (by omega) | exact eqL_t (by omega) (by omega) hai | (refine (decide_eq_false fun g => ?_).symm; have g2 := g.2 i (by omega); have r0 := g2 0 (by omega); have r1 := g2 1 (by omega); have r2 := g2 2 (by omega); have r3 := g2 3 (by omega); have r4 := g2 4 (by omega); have r5 := g2 5 (by omega); simp_all; done))
theorem reqSec_p (n m : Nat) (P Q : Nat → Nat → Int) (hn : n ≤ 9223372036854775807) (hm : m ≤ 9223372036854775807) : CallsP Tryz.prog 79 [.one (.lst 6 n (ptI P)), .one (.lst 6 m (ptI Q))] (.t (.one (.g (.bool (eqLB 6 n m P Q))))) := by
  refine CallsP_of Tryz.func79 rfl (by rw [Tryz.ntmps79]; simp) ?_
  simp only [Tryz.ntmps79, zM, PT.tv, argEnv, Nat.zero_add, Nat.reduceAdd]
  repeat' (first
 | ((with_reducible show AW _ _ _ _); first
 | (with_reducible first | refine aS (fun K hK => ?_) | refine aI ?_ | refine aX ?_ | refine aT ?_ | refine aC ?_ | refine aB ?_)
 | (first
 | (with_reducible first | refine aP 0 [0,1] ?_ | refine aP 1 [0,1] ?_ | refine aP 2 [] ?_ | refine aP 3 [0,1] ?_ | refine aP 4 [0,1,5] ?_ | refine aP 5 [0,1,5] ?_)
 | ((with_reducible refine aR (c := Code.region 6 _ true) [0,1,5] ?_); (with_reducible refine aD ?_ ?_ ?_ ?_); (focus kernel_rfl); (focus kernel_rfl); (focus kernel_rfl))
 | (with_reducible first | refine aP 7 [] ?_ | refine aP 8 [] ?_))
 | ((with_reducible show AW _ (Code.loop _) _ _); first
 | ((with_reducible refine aL (c := (Code.seq (Code.seq (Code.region 4 _ _) _) _)) (ι := Nat) [0,1] (fun i => [(5, iA .i64 (i : Int))]) (fun i => []) (fun i => i ≤ n ∧ (∀ i', i' < i → eqI 6 P Q i')) (fun i => n - i) 0 ?lg4 ?l14 ?l24 ?li4 ?lr4); (case' lg4 => rintro i _); (case' li4 => try (exact ⟨Nat.zero_le _, fun i hi => absurd hi (Nat.not_lt_zero _)⟩)); (case' lr4 => rintro i ⟨hi, hai⟩ KR hR4; simp only [keepE, hupd, hset, lk, if_true, if_false, xE, reduceIte, zN, Go.Sea.cmpS]))))
 | (((with_reducible refine And.intro ?_ ?_)); focus (omega))
 | (with_reducible refine retK_n ?_)
 | ((with_reducible show condN _ _ _ _ _ _); first
 | ((with_reducible refine condN_t ?_ ?_) <;> (intro hc; (try simp only [zB, zC, reduceCtorEq] at hc); (try (exfalso; contradiction)))))
 | ((with_reducible refine And.intro ?_ ?_); focus ((with_reducible show chkR _ _ _ = true); kernel_rfl))
 | ((with_reducible refine hR4 _ (i + 1) ?_); (try clear hR4 KR))
 | ((with_reducible refine Told.mk ?_); simp only [go_sem, reduceIte, reduceCtorEq, xA, xL, xD, xE, xM, xS, xB, ptI, Go.Sea.cmpS] <;> ((((try simp (disch := omega) only [seaWrap, Int.natCast_add, Int.cast_ofNat_Int, and_true, true_and, and_self]); (repeat' (first | omega | (with_reducible refine And.intro ?_ ?_) | ((exact all_succ (by assumption) (by (intro o ho; rcases o with _ | _ | _ | _ | _ | _ | o <;> first | omega | (simp_all; done))))))); done))))
 | ((fail_if_success (with_reducible show AW _ _ _ _)); simp (maxSteps := 2000000) only [go_sem, reduceIte, reduceCtorEq, xA, xL, xD, xE, xM, xS, xB, Tryz.f79, ptI, Go.Sea.cmpS])
 | ((with_reducible refine hK _ ?_); clear hK K)
 | (with_reducible apply_assumption -exfalso only [*]))
  all_goals (first | exact eqL_f0 (by omega) | exact eqL_t (by omega) (by omega) hai | (refine (decide_eq_false fun g => ?_).symm; have g2 := g.2 i (by omega); have r0 := g2 0 (by omega); have r1 := g2 1 (by omega); have r2 := g2 2 (by omega); have r3 := g2 3 (by omega); have r4 := g2 4 (by omega); have r5 := g2 5 (by omega); simp_all; done))
end Go.Proofs.YtmnejmpjmniiiaaGreatDoor
