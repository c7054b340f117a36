/- Part 7 of 16: contracts of functions and plain laws for the root text. No condition. -/
import Derived.Test.YtdhgiklbkmkblaaGreatK01
import Derived.Test.YtdhgiklbkmkblaaGreatK02
import Derived.Test.YtdhgiklbkmkblaaGreatK03
import Derived.Test.YtdhgiklbkmkblaaGreatK04
import Derived.Test.YtdhgiklbkmkblaaGreatK05
import Derived.Test.YtdhgiklbkmkblaaGreatK06
set_option linter.unusedVariables false
set_option linter.unusedSimpArgs false
set_option maxRecDepth 100000
set_option maxHeartbeats 4000000
namespace Go.Proofs.YtdhgiklbkmkblaaGreat
open Go.RowKit Go.Sea
open Nat renaming reduceAdd → xA, reduceLT → xL, reduceLeDiff → xD, reduceEqDiff → xE, reduceMul → xM, reduceSub → xS, reduceBEq → xB
theorem ar_72 : arD Tryz.prog 72 = none := by kernel_rfl
theorem fnok_145 : fnOk Tryz.prog 145 = true := by kernel_rfl
theorem fnok_211 : fnOk Tryz.prog 211 = true := by kernel_rfl
theorem fnok_212 : fnOk Tryz.prog 212 = true := by kernel_rfl
theorem fnok_214 : fnOk Tryz.prog 214 = true := by kernel_rfl
theorem fnok_219 : fnOk Tryz.prog 219 = true := by kernel_rfl
theorem fnok_220 : fnOk Tryz.prog 220 = true := by kernel_rfl
theorem fnok_221 : fnOk Tryz.prog 221 = true := by kernel_rfl
theorem fnok_98 : fnOk Tryz.prog 98 = true := by kernel_rfl
theorem le_72 : lenD Tryz.prog 72 = some true := by kernel_rfl
theorem sl_72 : slD Tryz.prog 72 = some (2, 16, 71) := by kernel_rfl
theorem ty_71 : tyD Tryz.prog 71 = some (true, 2) := by kernel_rfl
theorem zc_71 : zeroC Tryz.prog 71 = some [.iv (.g (.int .i64 0)), .iv (.g (.int .i64 0))] := by kernel_rfl
attribute [go_sem] ar_72 fnok_145 fnok_211 fnok_212 fnok_214 fnok_219 fnok_220 fnok_221 fnok_98 le_72 sl_72 ty_71 zc_71
theorem sgn_cmp (z : Int) : (if z < 0 then (-1 : Int) else if 0 < z then 1 else 0) = sgn z := by
  unfold sgn
  split <;> split <;> first | rfl | omega | (split <;> rfl)
theorem turn_p (ax ay bx by' cx cy : Int) (ha : ptB ax ay = true) (hb : ptB bx by' = true) (hc : ptB cx cy = true) : CallsP Tryz.prog 212 [.agg [.g (.int .i64 (ax)), .g (.int .i64 (ay))], .agg [.g (.int .i64 (bx)), .g (.int .i64 (by'))], .agg [.g (.int .i64 (cx)), .g (.int .i64 (cy))]] (.t (.one (.g (.int .i64 (trn ax ay bx by' cx cy))))) := by
  have hA := pt_d.1 ha
  have hB := pt_d.1 hb
  have hC := pt_d.1 hc
  have hX := crs_bd ha hb hc
  refine CallsP_of Tryz.func212 rfl (by rw [Tryz.ntmps212]; simp) ?_
  simp only [Tryz.ntmps212, zM, PT.tv, argEnv, Nat.zero_add, Nat.reduceAdd]
  repeat' (first
 | ((with_reducible show AW _ _ _ _); first
 | (with_reducible first | refine aS (fun K hK => ?_) | refine aT ?_)
 | (first
 | (with_reducible refine aP 0 [0,1,2] ?_)
 | ((with_reducible refine aR (c := Code.region 1 _ true) [3,4,5] ?_); (with_reducible refine aD ?_ ?_ ?_ ?_); (focus kernel_rfl); (focus kernel_rfl); (focus kernel_rfl))))
 | ((first | (with_reducible refine And.intro ?_ ?_) | (with_reducible refine Need.mk ?_)); focus (exact True.intro))
 | (with_reducible refine retK_n ?_)
 | ((with_reducible refine And.intro ?_ ?_); focus ((with_reducible show chkR _ _ _ = true); kernel_rfl))
 | ((with_reducible show callDN _ _ _ _ _ _ _ _ _ _ _ _ _); first
 | (refine callDN_q (k := 219) fnok_219 (from_p _ _ _ _ ha hb) ?_ ?_)
 | (refine callDN_q (k := 219) fnok_219 (from_p _ _ _ _ ha hc) ?_ ?_)
 | (refine callDN_q (k := 220) fnok_220 (cross_p (bx - ax) (by' - ay) (cx - ax) (cy - ay) hX.1 hX.2) ?_ ?_)
 | (refine callDN_q (k := 98) fnok_98 (gcmp_p _ _) ?_ ?_))
 | ((fail_if_success (with_reducible show AW _ _ _ _)); simp (maxSteps := 2000000) only [go_sem, reduceIte, reduceCtorEq, xA, xL, xD, xE, xM, xS, xB, Tryz.f212])
 | ((with_reducible refine hK _ ?_); clear hK K))
  all_goals (exact sgn_cmp _)
theorem on_p (px py ax ay bx by' : Int) (hp : ptB px py = true) (ha : ptB ax ay = true) (hb : ptB bx by' = true) : CallsP Tryz.prog 221 [.agg [.g (.int .i64 (px)), .g (.int .i64 (py))], .agg [.g (.int .i64 (ax)), .g (.int .i64 (ay))], .agg [.g (.int .i64 (bx)), .g (.int .i64 (by'))]] (.t (.one (.g (.bool (onB px py ax ay bx by'))))) := by
  refine CallsP_of Tryz.func221 rfl (by rw [Tryz.ntmps221]; simp) ?_
  simp only [Tryz.ntmps221, zM, PT.tv, argEnv, Nat.zero_add, Nat.reduceAdd]
  repeat' (first
 | ((with_reducible show AW _ _ _ _); first
 | (with_reducible first | refine aS (fun K hK => ?_) | refine aT ?_)
 | (first
 | (with_reducible first | refine aP 0 [0,1,2] ?_ | refine aP 1 [3,4,5] ?_)))
 | (((with_reducible refine Need.mk ?_)); focus (exact True.intro))
 | (with_reducible refine retK_n ?_)
 | ((with_reducible show callN _ _ _ _ _ _ _ _ _ _); first
 | (refine callN_q (k := 212) fnok_212 (turn_p _ _ _ _ _ _ ha hb hp) ?_ ?_))
 | ((fail_if_success (with_reducible show AW _ _ _ _)); simp (maxSteps := 2000000) only [go_sem, reduceIte, reduceCtorEq, xA, xL, xD, xE, xM, xS, xB, Tryz.f221])
 | ((with_reducible refine hK _ ?_); clear hK K))
  all_goals (unfold onB; (try refine Bool.eq_iff_iff.2 ?_); simp only [Bool.and_eq_true, decide_eq_true_eq, beq_iff_eq]; omega)
theorem meet_p2 (ax ay bx by' cx cy dx dy : Int) (qa : ptB ax ay = true) (qb : ptB bx by' = true) (qc : ptB cx cy = true) (qd : ptB dx dy = true) : CallsP Tryz.prog 214 [.agg [.g (.int .i64 (ax)), .g (.int .i64 (ay))], .agg [.g (.int .i64 (bx)), .g (.int .i64 (by'))], .agg [.g (.int .i64 (cx)), .g (.int .i64 (cy))], .agg [.g (.int .i64 (dx)), .g (.int .i64 (dy))]] (.t (.one (.g (.bool (meetB ax ay bx by' cx cy dx dy))))) := by
  have t1 := trn_bd ax ay bx by' cx cy
  have t2 := trn_bd ax ay bx by' dx dy
  have t3 := trn_bd cx cy dx dy ax ay
  have t4 := trn_bd cx cy dx dy bx by'
  have m1 := mul_bd t1 t2
  have m2 := mul_bd t3 t4
  refine CallsP_of Tryz.func214 rfl (by rw [Tryz.ntmps214]; simp) ?_
  simp only [Tryz.ntmps214, zM, PT.tv, argEnv, Nat.zero_add, Nat.reduceAdd]
  repeat' (first
 | ((with_reducible show AW _ _ _ _); first
 | (with_reducible first | refine aS (fun K hK => ?_) | refine aI ?_ | refine aT ?_ | refine aC ?_)
 | (first
 | (with_reducible refine aP 0 [0,1,2,3] ?_)
 | ((with_reducible refine aR (c := Code.region 1 _ true) [4,5,6,7] ?_); (with_reducible refine aD ?_ ?_ ?_ ?_); (focus kernel_rfl); (focus kernel_rfl); (focus kernel_rfl))
 | (with_reducible first | refine aP 2 [] ?_ | refine aP 3 [4,5,6,7] ?_)))
 | ((first | (with_reducible refine And.intro ?_ ?_) | (with_reducible refine Need.mk ?_)); focus (first | exact True.intro | (intro _; (with_reducible assumption)) | (simp; done)))
 | (with_reducible refine retK_n ?_)
 | ((with_reducible show condN _ _ _ _ _ _); first
 | ((with_reducible refine condN_t ?_ ?_) <;> (intro hc; (try simp only [zB, zC, reduceCtorEq] at hc); (try (exfalso; contradiction)))))
 | ((with_reducible refine And.intro ?_ ?_); focus ((with_reducible show chkR _ _ _ = true); kernel_rfl))
 | ((with_reducible show callDN _ _ _ _ _ _ _ _ _ _ _ _ _); first
 | (refine callDN_q (k := 212) fnok_212 (turn_p _ _ _ _ _ _ qa qb qc) ?_ ?_)
 | (refine callDN_q (k := 212) fnok_212 (turn_p _ _ _ _ _ _ qa qb qd) ?_ ?_))
 | ((with_reducible show callDGN _ _ _ _ _ _ _ _ _ _ _ _ _); first
 | (refine callDGN_q (k := 212) fnok_212 (fun hg => turn_p _ _ _ _ _ _ qc qd qa) ?_ ?_)
 | (refine callDGN_q (k := 212) fnok_212 (fun hg => turn_p _ _ _ _ _ _ qc qd qb) ?_ ?_))
 | ((with_reducible show callN _ _ _ _ _ _ _ _ _ _); (refine callN_q (k := 221) fnok_221 (on_p _ _ _ _ _ _ qa qc qd) ?_ ?_))
 | ((with_reducible show callGN _ _ _ _ _ _ _ _ _ _); first
 | (refine callGN_q (k := 221) fnok_221 (fun hg => on_p _ _ _ _ _ _ qb qc qd) ?_ ?_)
 | (refine callGN_q (k := 221) fnok_221 (fun hg => on_p _ _ _ _ _ _ qc qa qb) ?_ ?_)
 | (refine callGN_q (k := 221) fnok_221 (fun hg => on_p _ _ _ _ _ _ qd qa qb) ?_ ?_))
 | ((fail_if_success (with_reducible show AW _ _ _ _)); simp (maxSteps := 2000000) only [go_sem, reduceIte, reduceCtorEq, xA, xL, xD, xE, xM, xS, xB, Tryz.f214])
 | ((fail_if_success (with_reducible show AW _ _ _ _)); simp (disch := omega) only [seaWrap, seaDiv, seaMod])
 | ((with_reducible refine hK _ ?_); clear hK K))
  all_goals (unfold meetB; first | (rw [decide_eq_true (by assumption)]; rfl) | (rw [decide_eq_false (by omega)]; simp [Bool.or_assoc]))
def ptI (P : Nat → Nat → Int) (i o : Nat) : IV := .g (.int .i64 (P i o))
def allPt (P : Nat → Nat → Int) (k : Nat) : Prop := ∀ i, i < k → ptB (P i 0) (P i 1) = true
instance (P : Nat → Nat → Int) (k : Nat) : Decidable (allPt P k) := by unfold allPt; infer_instance
theorem valid_p2 (k : Nat) (P : Nat → Nat → Int) (hk : k ≤ 9223372036854775807) : CallsP Tryz.prog 211 [.one (.lst 2 k (ptI P))] (.t (.one (.g (.bool (decide (allPt P k)))))) := by
  refine CallsP_of Tryz.func211 rfl (by rw [Tryz.ntmps211]; simp) ?_
  simp only [Tryz.ntmps211, zM, PT.tv, argEnv, Nat.zero_add, Nat.reduceAdd]
  repeat' (first
 | ((with_reducible show AW _ _ _ _); first
 | (with_reducible first | refine aS (fun K hK => ?_) | refine aI ?_ | refine aX ?_ | refine aT ?_ | refine aC ?_ | refine aB ?_)
 | (first
 | (with_reducible first | refine aP 0 [0] ?_ | refine aP 1 [0] ?_ | refine aP 2 [5,6,7] ?_ | refine aP 3 [5,6,7] ?_ | refine aP 4 [4,5,6,7] ?_ | refine aP 5 [] ?_ | refine aP 6 [5,6,7] ?_ | refine aP 7 [] ?_))
 | ((with_reducible show AW _ (Code.loop _) _ _); first
 | ((with_reducible refine aL (c := (Code.seq (Code.region 2 _ _) _)) (ι := Nat) [5,6] (fun i => [(7, iA .i64 (i : Int))]) (fun i => []) (fun i => i ≤ k ∧ allPt P i) (fun i => k - i) 0 ?lg2 ?l12 ?l22 ?li2 ?lr2); (case' lg2 => rintro i _); (case' li2 => try (exact ⟨Nat.zero_le _, fun i hi => absurd hi (Nat.not_lt_zero _)⟩)); (case' lr2 => rintro i ⟨hi, hai⟩ KR hR2; simp only [keepE, hupd, hset, lk, if_true, if_false, xE, reduceIte, zN]))))
 | ((first | (with_reducible refine And.intro ?_ ?_) | (with_reducible refine Need.mk ?_)); focus (first | exact True.intro | omega))
 | (with_reducible refine retK_n ?_)
 | ((with_reducible show condN _ _ _ _ _ _); first
 | ((with_reducible refine condN_t ?_ ?_) <;> (intro hc; (try simp only [zB, zC, reduceCtorEq] at hc); (try (exfalso; contradiction)))))
 | ((with_reducible show callN _ _ _ _ _ _ _ _ _ _); first
 | (refine callN_q (k := 145) fnok_145 (ptV_p _ _) ?_ ?_))
 | ((with_reducible refine hR2 _ (i + 1) ?_); (try clear hR2 KR))
 | ((with_reducible refine Told.mk ?_); simp only [go_sem, reduceIte, reduceCtorEq, xA, xL, xD, xE, xM, xS, xB, ptI] <;> ((((try simp (disch := omega) only [seaWrap, Int.natCast_add, Int.cast_ofNat_Int, and_true, true_and, and_self]); (repeat' (first | omega | (with_reducible refine And.intro ?_ ?_) | (exact all_succ (by assumption) (by assumption)) )); done))))
 | ((fail_if_success (with_reducible show AW _ _ _ _)); simp (maxSteps := 2000000) only [go_sem, reduceIte, reduceCtorEq, xA, xL, xD, xE, xM, xS, xB, Tryz.f211, ptI])
 | ((with_reducible refine hK _ ?_); clear hK K)
 | (with_reducible apply_assumption -exfalso only [*]))
  all_goals (first | exact (decide_eq_false fun h => by have := h i (by omega); simp_all).symm | exact (decide_eq_true fun j hj => hai j (by omega)).symm)
def f3 (a b c d e f : Int) (i o : Nat) : Int := if i = 0 then (if o = 0 then a else b) else if i = 1 then (if o = 0 then c else d) else (if o = 0 then e else f)
def f4 (a b c d e f g h : Int) (i o : Nat) : Int := if i = 0 then (if o = 0 then a else b) else if i = 1 then (if o = 0 then c else d) else if i = 2 then (if o = 0 then e else f) else (if o = 0 then g else h)
theorem all3 (a b c d e f : Int) : decide (allPt (f3 a b c d e f) 3) = (ptB a b && ptB c d && ptB e f) := by
  refine Bool.eq_iff_iff.2 ?_
  simp only [Bool.and_eq_true, decide_eq_true_eq]
  constructor
  · intro h; exact ⟨⟨h 0 (by omega), h 1 (by omega)⟩, h 2 (by omega)⟩
  · rintro ⟨⟨h0, h1⟩, h2⟩ i hi
    rcases i with _ | _ | _ | i <;> first | exact h0 | exact h1 | exact h2 | omega
theorem all4 (a b c d e f g h : Int) : decide (allPt (f4 a b c d e f g h) 4) = (ptB a b && ptB c d && ptB e f && ptB g h) := by
  refine Bool.eq_iff_iff.2 ?_
  simp only [Bool.and_eq_true, decide_eq_true_eq]
  constructor
  · intro h; exact ⟨⟨⟨h 0 (by omega), h 1 (by omega)⟩, h 2 (by omega)⟩, h 3 (by omega)⟩
  · rintro ⟨⟨⟨h0, h1⟩, h2⟩, h3⟩ i hi
    rcases i with _ | _ | _ | _ | i <;> first | exact h0 | exact h1 | exact h2 | exact h3 | omega
theorem v3_p (a b c d e f : Int) {F : Nat → Nat → IV} (hF : ∀ i o, i < 3 → o < 2 → (F i o).eqv (ptI (f3 a b c d e f) i o)) : CallsP Tryz.prog 211 [.one (.lst 2 3 F)] (.t (.one (.g (.bool (ptB a b && ptB c d && ptB e f))))) := by
  have h := valid_p2 3 (f3 a b c d e f) (by omega)
  rw [all3] at h
  exact h.eqv ⟨⟨rfl, rfl, hF⟩, trivial⟩ (PV.eqv_refl _)
theorem v4_p (a b c d e f g k : Int) {F : Nat → Nat → IV} (hF : ∀ i o, i < 4 → o < 2 → (F i o).eqv (ptI (f4 a b c d e f g k) i o)) : CallsP Tryz.prog 211 [.one (.lst 2 4 F)] (.t (.one (.g (.bool (ptB a b && ptB c d && ptB e f && ptB g k))))) := by
  have h := valid_p2 4 (f4 a b c d e f g k) (by omega)
  rw [all4] at h
  exact h.eqv ⟨⟨rfl, rfl, hF⟩, trivial⟩ (PV.eqv_refl _)
def tvV (ax ay bx by' cx cy : Int) : Int := if (ptB ax ay && ptB bx by' && ptB cx cy) = true then trn ax ay bx by' cx cy else 0
def tvE (ax ay bx by' cx cy : Int) : Int := if (ptB ax ay && ptB bx by' && ptB cx cy) = true then 0 else 1
theorem Turn_ok (ax ay bx by' cx cy : Int) (hv : (ptB ax ay && ptB bx by' && ptB cx cy) = true) : CallsP Tryz.prog 194 [.agg [.g (.int .i64 (ax)), .g (.int .i64 (ay))], .agg [.g (.int .i64 (bx)), .g (.int .i64 (by'))], .agg [.g (.int .i64 (cx)), .g (.int .i64 (cy))]] (.tup [.one (.g (.int .i64 (trn ax ay bx by' cx cy))), .one (.g (.int .i64 (0)))]) := by
  have q1 : ptB ax ay = true := by simp only [Bool.and_eq_true] at hv; exact hv.1.1
  have q2 : ptB bx by' = true := by simp only [Bool.and_eq_true] at hv; exact hv.1.2
  have q3 : ptB cx cy = true := by simp only [Bool.and_eq_true] at hv; exact hv.2
  refine CallsP_of Tryz.func194 rfl (by rw [Tryz.ntmps194]; simp) ?_
  simp only [Tryz.ntmps194, zM, PT.tv, argEnv, Nat.zero_add, Nat.reduceAdd]
  repeat' (first
 | ((with_reducible show callN _ _ _ _ _ _ _ _ _ _); first
 | ((refine callN_q (k := 211) fnok_211 (v3_p ax ay bx by' cx cy ?_) ?_ ?_); (focus (intro i o hi ho; rcases i with _ | _ | _ | _ | i <;> first | omega | (rcases o with _ | _ | o <;> first | omega | exact IV.eqv_refl _))))
 | (refine callN_q (k := 212) fnok_212 (turn_p _ _ _ _ _ _ q1 q2 q3) ?_ ?_))
 | ((with_reducible show AW _ _ _ _); first
 | (with_reducible first | refine aS (fun K hK => ?_) | refine aI ?_ | refine aT ?_ | refine aC ?_)
 | (first
 | (with_reducible first | refine aP 0 [0,1,2] ?_ | refine aP 1 [3,4,5] ?_ | refine aP 3 [3,4,5] ?_)))
 | (((with_reducible refine Need.mk ?_)); focus (exact True.intro))
 | (with_reducible refine retK_n ?_)
 | ((with_reducible show condN _ _ _ _ _ _); first
 | ((with_reducible refine condN_t ?_ ?_) <;> (intro hc; (try simp only [zB, zC, reduceCtorEq] at hc); (try (exfalso; contradiction)))))
 | ((fail_if_success (with_reducible show AW _ _ _ _)); simp (maxSteps := 2000000) only [go_sem, reduceIte, reduceCtorEq, xA, xL, xD, xE, xM, xS, xB, Tryz.f194, hv, Bool.not_true])
 | ((with_reducible refine hK _ ?_); clear hK K))
theorem Turn_no (ax ay bx by' cx cy : Int) (hv : (ptB ax ay && ptB bx by' && ptB cx cy) = false) : CallsP Tryz.prog 194 [.agg [.g (.int .i64 (ax)), .g (.int .i64 (ay))], .agg [.g (.int .i64 (bx)), .g (.int .i64 (by'))], .agg [.g (.int .i64 (cx)), .g (.int .i64 (cy))]] (.tup [.one (.g (.int .i64 (0))), .one (.g (.int .i64 (1)))]) := by
  refine CallsP_of Tryz.func194 rfl (by rw [Tryz.ntmps194]; simp) ?_
  simp only [Tryz.ntmps194, zM, PT.tv, argEnv, Nat.zero_add, Nat.reduceAdd]
  repeat' (first
 | ((with_reducible show callN _ _ _ _ _ _ _ _ _ _); first
 | ((refine callN_q (k := 211) fnok_211 (v3_p ax ay bx by' cx cy ?_) ?_ ?_); (focus (intro i o hi ho; rcases i with _ | _ | _ | _ | i <;> first | omega | (rcases o with _ | _ | o <;> first | omega | exact IV.eqv_refl _)))))
 | ((with_reducible show AW _ _ _ _); first
 | (with_reducible first | refine aS (fun K hK => ?_) | refine aT ?_ | refine aC ?_)
 | (first
 | (with_reducible first | refine aP 0 [0,1,2] ?_ | refine aP 1 [3,4,5] ?_ | refine aP 2 [] ?_)))
 | (((with_reducible refine Need.mk ?_)); focus (exact True.intro))
 | (with_reducible refine retK_n ?_)
 | ((with_reducible show condN _ _ _ _ _ _); first
 | ((with_reducible refine condN_t ?_ ?_) <;> (intro hc; (try simp only [zB, zC, reduceCtorEq] at hc); (try (exfalso; contradiction)))))
 | ((fail_if_success (with_reducible show AW _ _ _ _)); simp (maxSteps := 2000000) only [go_sem, reduceIte, reduceCtorEq, xA, xL, xD, xE, xM, xS, xB, Tryz.f194, hv, Bool.not_false])
 | ((with_reducible refine hK _ ?_); clear hK K))
theorem Turn_p (ax ay bx by' cx cy : Int) : CallsP Tryz.prog 194 [.agg [.g (.int .i64 (ax)), .g (.int .i64 (ay))], .agg [.g (.int .i64 (bx)), .g (.int .i64 (by'))], .agg [.g (.int .i64 (cx)), .g (.int .i64 (cy))]] (.tup [.one (.g (.int .i64 (tvV ax ay bx by' cx cy))), .one (.g (.int .i64 (tvE ax ay bx by' cx cy)))]) := by
  unfold tvV tvE
  cases hv : (ptB ax ay && ptB bx by' && ptB cx cy) with
  | true => exact Turn_ok ax ay bx by' cx cy hv
  | false => exact Turn_no ax ay bx by' cx cy hv
def mvB (ax ay bx by' cx cy dx dy : Int) : Bool := if (ptB ax ay && ptB bx by' && ptB cx cy && ptB dx dy) = true then meetB ax ay bx by' cx cy dx dy else false
def mvE (ax ay bx by' cx cy dx dy : Int) : Int := if (ptB ax ay && ptB bx by' && ptB cx cy && ptB dx dy) = true then 0 else 1
theorem Meet_ok (ax ay bx by' cx cy dx dy : Int) (hv : (ptB ax ay && ptB bx by' && ptB cx cy && ptB dx dy) = true) : CallsP Tryz.prog 196 [.agg [.g (.int .i64 (ax)), .g (.int .i64 (ay))], .agg [.g (.int .i64 (bx)), .g (.int .i64 (by'))], .agg [.g (.int .i64 (cx)), .g (.int .i64 (cy))], .agg [.g (.int .i64 (dx)), .g (.int .i64 (dy))]] (.tup [.one (.g (.bool (meetB ax ay bx by' cx cy dx dy))), .one (.g (.int .i64 (0)))]) := by
  simp only [Bool.and_eq_true] at hv
  obtain ⟨⟨⟨q1, q2⟩, q3⟩, q4⟩ := hv
  have hv : (ptB ax ay && ptB bx by' && ptB cx cy && ptB dx dy) = true := by rw [q1, q2, q3, q4]; rfl
  refine CallsP_of Tryz.func196 rfl (by rw [Tryz.ntmps196]; simp) ?_
  simp only [Tryz.ntmps196, zM, PT.tv, argEnv, Nat.zero_add, Nat.reduceAdd]
  repeat' (first
 | ((with_reducible show callN _ _ _ _ _ _ _ _ _ _); first
 | ((refine callN_q (k := 211) fnok_211 (v4_p ax ay bx by' cx cy dx dy ?_) ?_ ?_); (focus (intro i o hi ho; rcases i with _ | _ | _ | _ | i <;> first | omega | (rcases o with _ | _ | o <;> first | omega | exact IV.eqv_refl _))))
 | (refine callN_q (k := 214) fnok_214 (meet_p2 _ _ _ _ _ _ _ _ q1 q2 q3 q4) ?_ ?_))
 | ((with_reducible show AW _ _ _ _); first
 | (with_reducible first | refine aS (fun K hK => ?_) | refine aI ?_ | refine aT ?_ | refine aC ?_)
 | (first
 | (with_reducible first | refine aP 0 [0,1,2,3] ?_ | refine aP 1 [4,5,6,7] ?_ | refine aP 3 [4,5,6,7] ?_)))
 | (((with_reducible refine Need.mk ?_)); focus (exact True.intro))
 | (with_reducible refine retK_n ?_)
 | ((with_reducible show condN _ _ _ _ _ _); first
 | ((with_reducible refine condN_t ?_ ?_) <;> (intro hc; (try simp only [zB, zC, reduceCtorEq] at hc); (try (exfalso; contradiction)))))
 | ((fail_if_success (with_reducible show AW _ _ _ _)); simp (maxSteps := 2000000) only [go_sem, reduceIte, reduceCtorEq, xA, xL, xD, xE, xM, xS, xB, Tryz.f196, hv, Bool.not_true])
 | ((with_reducible refine hK _ ?_); clear hK K))
theorem Meet_no (ax ay bx by' cx cy dx dy : Int) (hv : (ptB ax ay && ptB bx by' && ptB cx cy && ptB dx dy) = false) : CallsP Tryz.prog 196 [.agg [.g (.int .i64 (ax)), .g (.int .i64 (ay))], .agg [.g (.int .i64 (bx)), .g (.int .i64 (by'))], .agg [.g (.int .i64 (cx)), .g (.int .i64 (cy))], .agg [.g (.int .i64 (dx)), .g (.int .i64 (dy))]] (.tup [.one (.g (.bool false)), .one (.g (.int .i64 (1)))]) := by
  refine CallsP_of Tryz.func196 rfl (by rw [Tryz.ntmps196]; simp) ?_
  simp only [Tryz.ntmps196, zM, PT.tv, argEnv, Nat.zero_add, Nat.reduceAdd]
  repeat' (first
 | ((with_reducible show callN _ _ _ _ _ _ _ _ _ _); first
 | ((refine callN_q (k := 211) fnok_211 (v4_p ax ay bx by' cx cy dx dy ?_) ?_ ?_); (focus (intro i o hi ho; rcases i with _ | _ | _ | _ | i <;> first | omega | (rcases o with _ | _ | o <;> first | omega | exact IV.eqv_refl _)))))
 | ((with_reducible show AW _ _ _ _); first
 | (with_reducible first | refine aS (fun K hK => ?_) | refine aT ?_ | refine aC ?_)
 | (first
 | (with_reducible first | refine aP 0 [0,1,2,3] ?_ | refine aP 1 [4,5,6,7] ?_ | refine aP 2 [] ?_)))
 | (((with_reducible refine Need.mk ?_)); focus (exact True.intro))
 | (with_reducible refine retK_n ?_)
 | ((with_reducible show condN _ _ _ _ _ _); first
 | ((with_reducible refine condN_t ?_ ?_) <;> (intro hc; (try simp only [zB, zC, reduceCtorEq] at hc); (try (exfalso; contradiction)))))
 | ((fail_if_success (with_reducible show AW _ _ _ _)); simp (maxSteps := 2000000) only [go_sem, reduceIte, reduceCtorEq, xA, xL, xD, xE, xM, xS, xB, Tryz.f196, hv, Bool.not_false])
 | ((with_reducible refine hK _ ?_); clear hK K))
theorem Meet_p (ax ay bx by' cx cy dx dy : Int) : CallsP Tryz.prog 196 [.agg [.g (.int .i64 (ax)), .g (.int .i64 (ay))], .agg [.g (.int .i64 (bx)), .g (.int .i64 (by'))], .agg [.g (.int .i64 (cx)), .g (.int .i64 (cy))], .agg [.g (.int .i64 (dx)), .g (.int .i64 (dy))]] (.tup [.one (.g (.bool (mvB ax ay bx by' cx cy dx dy))), .one (.g (.int .i64 (mvE ax ay bx by' cx cy dx dy)))]) := by
  unfold mvB mvE
  cases hv : (ptB ax ay && ptB bx by' && ptB cx cy && ptB dx dy) with
  | true => exact Meet_ok ax ay bx by' cx cy dx dy hv
  | false => exact Meet_no ax ay bx by' cx cy dx dy hv
end Go.Proofs.YtdhgiklbkmkblaaGreat
set_option maxRecDepth 100000
set_option maxHeartbeats 4000000
namespace Go.Proofs.YtdhgiklbkmkblaaGreat
open Go.RowKit Go.Sea
open Nat renaming reduceAdd → xA, reduceLT → xL, reduceLeDiff → xD, reduceEqDiff → xE, reduceMul → xM, reduceSub → xS, reduceBEq → xB
theorem bo_183 : boD Tryz.prog 183 = false := by kernel_rfl
theorem bo_4 : boD Tryz.prog 4 = true := by kernel_rfl
theorem eq_183 : eqD Tryz.prog 183 = some (true, [.int .i64, .int .i64]) := by kernel_rfl
theorem fnok_204 : fnOk Tryz.prog 204 = true := by kernel_rfl
theorem fnok_205 : fnOk Tryz.prog 205 = true := by kernel_rfl
theorem fnok_215 : fnOk Tryz.prog 215 = true := by kernel_rfl
theorem fnok_216 : fnOk Tryz.prog 216 = true := by kernel_rfl
theorem fo_183 : fieldsOk Tryz.prog 183 = true := by kernel_rfl
theorem fo_71 : fieldsOk Tryz.prog 71 = true := by kernel_rfl
theorem of_183_0 : offOf Tryz.prog 183 0 = some 0 := by kernel_rfl
theorem of_183_1 : offOf Tryz.prog 183 1 = some 1 := by kernel_rfl
theorem pl_71_0 : placeF Tryz.prog 71 0 = some (0, 1) := by kernel_rfl
theorem pl_71_1 : placeF Tryz.prog 71 1 = some (1, 1) := by kernel_rfl
theorem ty_183 : tyD Tryz.prog 183 = some (true, 2) := by kernel_rfl
theorem zc_183 : zeroC Tryz.prog 183 = some [.iv (.g (.int .i64 0)), .iv (.g (.int .i64 0))] := by kernel_rfl
attribute [go_sem] bo_183 bo_4 eq_183 fnok_204 fnok_205 fnok_215 fnok_216 fo_183 fo_71 of_183_0 of_183_1 pl_71_0 pl_71_1 ty_183 zc_183
theorem dir_bd {M x y u v : Int} (h : (-M ≤ x ∧ x ≤ M) ∧ (-M ≤ y ∧ y ≤ M)) (g : (-M ≤ u ∧ u ≤ M) ∧ (-M ≤ v ∧ v ≤ M)) : (-(M * M) ≤ x * v ∧ x * v ≤ M * M) ∧ (-(M * M) ≤ y * u ∧ y * u ≤ M * M) ∧ (-(M * M) ≤ x * u ∧ x * u ≤ M * M) ∧ (-(M * M) ≤ y * v ∧ y * v ≤ M * M) :=
  ⟨mul_bd h.1 g.2, mul_bd h.2 g.1, mul_bd h.1 g.1, mul_bd h.2 g.2⟩
def f2 (a b : Int) (i o : Nat) : IV := .g (.int .i64 (if i = 0 then a else b))
theorem rsign_p (z : Int) : CallsP Tryz.prog 199 [.one (.g (.int .i64 (z)))] (.t (.one (.g (.int .i64 (sgn z))))) := by
  refine CallsP_of Tryz.func199 rfl (by rw [Tryz.ntmps199]; simp) ?_
  simp only [Tryz.ntmps199, zM, PT.tv, argEnv, Nat.zero_add, Nat.reduceAdd]
  repeat' (first
 | ((with_reducible show AW _ _ _ _); first
 | (with_reducible first | refine aS (fun K hK => ?_) | refine aI ?_ | refine aT ?_ | refine aC ?_)
 | (first
 | (with_reducible first | refine aP 0 [0] ?_ | refine aP 1 [0] ?_ | refine aP 2 [] ?_ | refine aP 3 [0] ?_ | refine aP 4 [] ?_ | refine aP 5 [] ?_)))
 | (with_reducible refine retK_n ?_)
 | ((with_reducible show condN _ _ _ _ _ _); first
 | ((with_reducible refine condN_t ?_ ?_) <;> (intro hc; (try simp only [zB, zC, reduceCtorEq] at hc); (try (exfalso; contradiction)))))
 | ((fail_if_success (with_reducible show AW _ _ _ _)); simp (maxSteps := 2000000) only [go_sem, reduceIte, reduceCtorEq, xA, xL, xD, xE, xM, xS, xB, Tryz.f199])
 | ((with_reducible refine hK _ ?_); clear hK K))
  all_goals (first | (unfold sgn; simp_all; done) | (unfold sgn; split <;> omega))
theorem rcross_p (x y u v : Int) (h1 : -4000000000000 ≤ x * v ∧ x * v ≤ 4000000000000) (h2 : -4000000000000 ≤ y * u ∧ y * u ≤ 4000000000000) : CallsP Tryz.prog 200 [.agg [.g (.int .i64 (x)), .g (.int .i64 (y))], .agg [.g (.int .i64 (u)), .g (.int .i64 (v))]] (.t (.one (.g (.int .i64 (x * v - y * u))))) := by
  refine CallsP_of Tryz.func200 rfl (by rw [Tryz.ntmps200]; simp) ?_
  simp only [Tryz.ntmps200, zM, PT.tv, argEnv, Nat.zero_add, Nat.reduceAdd]
  repeat' (first
 | ((with_reducible show AW _ _ _ _); first
 | (with_reducible first | refine aS (fun K hK => ?_) | refine aT ?_)
 | (first
 | (with_reducible first | refine aP 0 [0,1] ?_ | refine aP 1 [2,3] ?_)))
 | (with_reducible refine retK_n ?_)
 | ((fail_if_success (with_reducible show AW _ _ _ _)); simp (maxSteps := 2000000) only [go_sem, reduceIte, reduceCtorEq, xA, xL, xD, xE, xM, xS, xB, Tryz.f200])
 | ((fail_if_success (with_reducible show AW _ _ _ _)); simp (disch := omega) only [seaWrap, seaDiv, seaMod])
 | ((with_reducible refine hK _ ?_); clear hK K))
theorem rcross5_p (x y u v : Int) (h1 : -4000000000000 ≤ x * v ∧ x * v ≤ 4000000000000) (h2 : -4000000000000 ≤ y * u ∧ y * u ≤ 4000000000000) : CallsP Tryz.prog 205 [.agg [.g (.int .i64 (x)), .g (.int .i64 (y))], .agg [.g (.int .i64 (u)), .g (.int .i64 (v))]] (.t (.one (.g (.int .i64 (x * v - y * u))))) := by
  refine CallsP_of Tryz.func205 rfl (by rw [Tryz.ntmps205]; simp) ?_
  simp only [Tryz.ntmps205, zM, PT.tv, argEnv, Nat.zero_add, Nat.reduceAdd]
  repeat' (first
 | ((with_reducible show AW _ _ _ _); first
 | (with_reducible first | refine aS (fun K hK => ?_) | refine aT ?_)
 | (first
 | (with_reducible first | refine aP 0 [0,1] ?_ | refine aP 1 [2,3] ?_)))
 | (with_reducible refine retK_n ?_)
 | ((fail_if_success (with_reducible show AW _ _ _ _)); simp (maxSteps := 2000000) only [go_sem, reduceIte, reduceCtorEq, xA, xL, xD, xE, xM, xS, xB, Tryz.f205])
 | ((fail_if_success (with_reducible show AW _ _ _ _)); simp (disch := omega) only [seaWrap, seaDiv, seaMod])
 | ((with_reducible refine hK _ ?_); clear hK K))
theorem wcross_p (x y u v : Int) (h1 : -4000000000000 ≤ x * v ∧ x * v ≤ 4000000000000) (h2 : -4000000000000 ≤ y * u ∧ y * u ≤ 4000000000000) : CallsP Tryz.prog 216 [.agg [.g (.int .i64 (x)), .g (.int .i64 (y))], .agg [.g (.int .i64 (u)), .g (.int .i64 (v))]] (.t (.one (.g (.int .i64 (x * v - y * u))))) := by
  refine CallsP_of Tryz.func216 rfl (by rw [Tryz.ntmps216]; simp) ?_
  simp only [Tryz.ntmps216, zM, PT.tv, argEnv, Nat.zero_add, Nat.reduceAdd]
  repeat' (first
 | ((with_reducible show AW _ _ _ _); first
 | (with_reducible first | refine aS (fun K hK => ?_) | refine aT ?_)
 | (first
 | (with_reducible first | refine aP 0 [0,1] ?_ | refine aP 1 [2,3] ?_)))
 | (with_reducible refine retK_n ?_)
 | ((fail_if_success (with_reducible show AW _ _ _ _)); simp (maxSteps := 2000000) only [go_sem, reduceIte, reduceCtorEq, xA, xL, xD, xE, xM, xS, xB, Tryz.f216])
 | ((fail_if_success (with_reducible show AW _ _ _ _)); simp (disch := omega) only [seaWrap, seaDiv, seaMod])
 | ((with_reducible refine hK _ ?_); clear hK K))
theorem rminus_p (x y u v : Int) (h1 : (-1000000 ≤ x ∧ x ≤ 1000000) ∧ (-1000000 ≤ y ∧ y ≤ 1000000)) (h2 : (-1000000 ≤ u ∧ u ≤ 1000000) ∧ (-1000000 ≤ v ∧ v ≤ 1000000)) : CallsP Tryz.prog 201 [.agg [.g (.int .i64 (x)), .g (.int .i64 (y))], .agg [.g (.int .i64 (u)), .g (.int .i64 (v))]] (.t (.agg [.g (.int .i64 (x - u)), .g (.int .i64 (y - v))])) := by
  refine CallsP_of Tryz.func201 rfl (by rw [Tryz.ntmps201]; simp) ?_
  simp only [Tryz.ntmps201, zM, PT.tv, argEnv, Nat.zero_add, Nat.reduceAdd]
  repeat' (first
 | ((with_reducible show AW _ _ _ _); first
 | (with_reducible first | refine aS (fun K hK => ?_) | refine aT ?_)
 | (first
 | (with_reducible first | refine aP 0 [0,1] ?_ | refine aP 1 [2,3,4] ?_)))
 | (with_reducible refine retK_n ?_)
 | ((fail_if_success (with_reducible show AW _ _ _ _)); simp (maxSteps := 2000000) only [go_sem, reduceIte, reduceCtorEq, xA, xL, xD, xE, xM, xS, xB, Tryz.f201])
 | ((fail_if_success (with_reducible show AW _ _ _ _)); simp (disch := omega) only [seaWrap, seaDiv, seaMod])
 | ((with_reducible refine hK _ ?_); clear hK K))
theorem upper_p (x y : Int) : CallsP Tryz.prog 215 [.agg [.g (.int .i64 (x)), .g (.int .i64 (y))]] (.t (.one (.g (.bool (decide (0 < y ∨ (y = 0 ∧ 0 < x))))))) := by
  refine CallsP_of Tryz.func215 rfl (by rw [Tryz.ntmps215]; simp) ?_
  simp only [Tryz.ntmps215, zM, PT.tv, argEnv, Nat.zero_add, Nat.reduceAdd]
  repeat' (first
 | ((with_reducible show AW _ _ _ _); first
 | (with_reducible first | refine aS (fun K hK => ?_) | refine aT ?_)
 | (first
 | (with_reducible first | refine aP 0 [0] ?_ | refine aP 1 [1] ?_)))
 | (((with_reducible refine And.intro ?_ ?_)); focus (first | (simp; done) | (simp; omega)))
 | (with_reducible refine retK_n ?_)
 | ((fail_if_success (with_reducible show AW _ _ _ _)); simp (maxSteps := 2000000) only [go_sem, reduceIte, reduceCtorEq, xA, xL, xD, xE, xM, xS, xB, Tryz.f215])
 | ((with_reducible refine hK _ ?_); clear hK K))
  all_goals ((try refine Bool.eq_iff_iff.2 ?_); (simp only [Bool.and_eq_true, Bool.or_eq_true, Bool.not_eq_true', decide_eq_true_eq, decide_eq_false_iff_not, bne_iff_ne, beq_iff_eq, ne_eq, ge_iff_le, gt_iff_lt, cond_eq_ite, iff_self, eq_self]; done))
def dirB (x y : Int) : Bool := decide (((-1000000 ≤ x ∧ x ≤ 1000000) ∧ (-1000000 ≤ y ∧ y ≤ 1000000)) ∧ ¬ (x = 0 ∧ y = 0))
theorem wok_p (x y : Int) : CallsP Tryz.prog 197 [.agg [.g (.int .i64 (x)), .g (.int .i64 (y))]] (.t (.one (.g (.bool (dirB x y))))) := by
  refine CallsP_of Tryz.func197 rfl (by rw [Tryz.ntmps197]; simp) ?_
  simp only [Tryz.ntmps197, zM, PT.tv, argEnv, Nat.zero_add, Nat.reduceAdd]
  repeat' (first
 | ((with_reducible show AW _ _ _ _); first
 | (with_reducible first | refine aS (fun K hK => ?_) | refine aT ?_)
 | (first
 | (with_reducible first | refine aP 0 [0] ?_ | refine aP 1 [1] ?_)))
 | (with_reducible refine retK_n ?_)
 | ((fail_if_success (with_reducible show AW _ _ _ _)); simp (maxSteps := 2000000) only [go_sem, reduceIte, reduceCtorEq, xA, xL, xD, xE, xM, xS, xB, Tryz.f197, dirB])
 | ((with_reducible refine hK _ ?_); clear hK K))
  all_goals ((refine Bool.eq_iff_iff.2 ?_; simp only [Bool.and_eq_true, Bool.not_eq_true', Bool.and_eq_false_iff, beq_eq_false_iff_ne, decide_eq_true_eq, ne_eq, ge_iff_le]; omega))
theorem rdir_p (x y : Int) : CallsP Tryz.prog 203 [.agg [.g (.int .i64 (x)), .g (.int .i64 (y))]] (.t (.one (.g (.bool (dirB x y))))) := by
  refine CallsP_of Tryz.func203 rfl (by rw [Tryz.ntmps203]; simp) ?_
  simp only [Tryz.ntmps203, zM, PT.tv, argEnv, Nat.zero_add, Nat.reduceAdd]
  repeat' (first
 | ((with_reducible show AW _ _ _ _); first
 | (with_reducible first | refine aS (fun K hK => ?_) | refine aT ?_)
 | (first
 | (with_reducible first | refine aP 0 [0] ?_ | refine aP 1 [1] ?_)))
 | (((with_reducible refine And.intro ?_ ?_)); focus ((simp; omega)))
 | (with_reducible refine retK_n ?_)
 | ((fail_if_success (with_reducible show AW _ _ _ _)); simp (maxSteps := 2000000) only [go_sem, reduceIte, reduceCtorEq, xA, xL, xD, xE, xM, xS, xB, Tryz.f203, dirB])
 | ((with_reducible refine hK _ ?_); clear hK K))
  all_goals ((try refine Bool.eq_iff_iff.2 ?_); (simp only [Bool.and_eq_true, Bool.or_eq_true, Bool.not_eq_true', decide_eq_true_eq, decide_eq_false_iff_not, bne_iff_ne, beq_iff_eq, ne_eq, ge_iff_le, gt_iff_lt, cond_eq_ite, iff_self, eq_self]; omega))
theorem rless_p (x y u v : Int) : CallsP Tryz.prog 174 [.agg [.g (.int .i64 (x)), .g (.int .i64 (y))], .agg [.g (.int .i64 (u)), .g (.int .i64 (v))]] (.t (.one (.g (.bool (decide (x < u ∨ (x = u ∧ y < v))))))) := by
  refine CallsP_of Tryz.func174 rfl (by rw [Tryz.ntmps174]; simp) ?_
  simp only [Tryz.ntmps174, zM, PT.tv, argEnv, Nat.zero_add, Nat.reduceAdd]
  repeat' (first
 | ((with_reducible show AW _ _ _ _); first
 | (with_reducible first | refine aS (fun K hK => ?_) | refine aT ?_)
 | (first
 | (with_reducible first | refine aP 0 [0,1] ?_ | refine aP 1 [2,3] ?_)))
 | (((with_reducible refine And.intro ?_ ?_)); focus (first | (simp; done) | (simp; omega)))
 | (with_reducible refine retK_n ?_)
 | ((fail_if_success (with_reducible show AW _ _ _ _)); simp (maxSteps := 2000000) only [go_sem, reduceIte, reduceCtorEq, xA, xL, xD, xE, xM, xS, xB, Tryz.f174])
 | ((with_reducible refine hK _ ?_); clear hK K))
  all_goals ((try refine Bool.eq_iff_iff.2 ?_); (simp only [Bool.and_eq_true, Bool.or_eq_true, Bool.not_eq_true', decide_eq_true_eq, decide_eq_false_iff_not, bne_iff_ne, beq_iff_eq, ne_eq, ge_iff_le, gt_iff_lt, cond_eq_ite, iff_self, eq_self]; done))
def upB (x y : Int) : Bool := decide (0 < y ∨ (y = 0 ∧ 0 < x))
def cmpW (x y u v : Int) : Int := if upB x y = upB u v then - sgn (x * v - y * u) else if upB x y = true then -1 else 1
theorem cmpW_v (x y u v : Int) : cmpW x y u v = -1 ∨ cmpW x y u v = 0 ∨ cmpW x y u v = 1 := by
  unfold cmpW
  have := sgn_v (x * v - y * u)
  split <;> first | omega | (split <;> omega)
def hasP (fx fy tx ty vx vy : Int) : Bool := if cmpW fx fy tx ty = -1 then decide (cmpW fx fy vx vy ≤ 0) && !decide (cmpW tx ty vx vy ≤ 0) else if cmpW fx fy tx ty = 1 then decide (cmpW fx fy vx vy ≤ 0) || !decide (cmpW tx ty vx vy ≤ 0) else true
def alkB (x y u v : Int) : Bool := decide (x * v - y * u = 0 ∧ 0 < x * u + y * v)
def hasR (fx fy tx ty vx vy : Int) : Bool := if (alkB fx fy tx ty || alkB fx fy vx vy) = true then true else if alkB tx ty vx vy = true then false else if fx * vy - fy * vx > 0 then decide (vx * ty - vy * tx > 0 ∨ fx * ty - fy * tx ≤ 0) else decide (vx * ty - vy * tx > 0 ∧ fx * ty - fy * tx < 0)
theorem cmpW_p (x y u v : Int) (h1 : -4000000000000 ≤ x * v ∧ x * v ≤ 4000000000000) (h2 : -4000000000000 ≤ y * u ∧ y * u ≤ 4000000000000) : CallsP Tryz.prog 198 [.agg [.g (.int .i64 (x)), .g (.int .i64 (y))], .agg [.g (.int .i64 (u)), .g (.int .i64 (v))]] (.t (.one (.g (.int .i64 (cmpW x y u v))))) := by
  refine CallsP_of Tryz.func198 rfl (by rw [Tryz.ntmps198]; simp) ?_
  simp only [Tryz.ntmps198, zM, PT.tv, argEnv, Nat.zero_add, Nat.reduceAdd]
  repeat' (first
 | ((with_reducible show AW _ _ _ _); first
 | (with_reducible first | refine aS (fun K hK => ?_) | refine aI ?_ | refine aT ?_ | refine aC ?_ | refine aB ?_)
 | (first
 | (with_reducible refine aP 0 [0,1] ?_)
 | ((with_reducible refine aR (c := Code.region 1 _ true) [2,3] ?_); (with_reducible refine aD ?_ ?_ ?_ ?_); (focus kernel_rfl); (focus kernel_rfl); (focus kernel_rfl))
 | (with_reducible first | refine aP 2 [2] ?_ | refine aP 3 [] ?_ | refine aP 4 [] ?_ | refine aP 5 [2,3] ?_ | refine aP 6 [] ?_ | refine aP 7 [2,3] ?_ | refine aP 8 [] ?_ | refine aP 9 [] ?_)))
 | ((first | (with_reducible refine And.intro ?_ ?_) | (with_reducible refine Need.mk ?_)); focus (exact True.intro))
 | (with_reducible refine retK_n ?_)
 | ((with_reducible show condN _ _ _ _ _ _); first
 | ((with_reducible refine condN_t ?_ ?_) <;> (intro hc; (try simp only [zB, zC, reduceCtorEq] at hc); (try (exfalso; contradiction)))))
 | ((with_reducible refine And.intro ?_ ?_); focus ((with_reducible show chkR _ _ _ = true); kernel_rfl))
 | ((with_reducible show callN _ _ _ _ _ _ _ _ _ _); first
 | (refine callN_q (k := 215) fnok_215 (upper_p x y) ?_ ?_)
 | (refine callN_q (k := 216) fnok_216 (wcross_p x y u v h1 h2) ?_ ?_))
 | ((with_reducible show callDN _ _ _ _ _ _ _ _ _ _ _ _ _); first
 | (refine callDN_q (k := 215) fnok_215 (upper_p x y) ?_ ?_)
 | (refine callDN_q (k := 215) fnok_215 (upper_p u v) ?_ ?_))
 | ((fail_if_success (with_reducible show AW _ _ _ _)); simp (maxSteps := 2000000) only [go_sem, reduceIte, reduceCtorEq, xA, xL, xD, xE, xM, xS, xB, Tryz.f198])
 | ((with_reducible refine hK _ ?_); clear hK K))
  all_goals (first | (unfold cmpW upB sgn; simp_all; done) | (rw [cmpW, if_neg (by simp only [upB]; assumption), if_pos (by simp only [upB, decide_eq_true_eq]; assumption)]) | (rw [cmpW, if_neg (by simp only [upB]; assumption), if_neg (by simp only [upB, decide_eq_true_eq]; assumption)]) | (rw [cmpW, if_pos (by simp only [upB]; assumption)]; unfold sgn; (repeat' split) <;> omega))
theorem alk_p (x y u v : Int) (d1 : dirB x y = true) (d2 : dirB u v = true) : CallsP Tryz.prog 204 [.agg [.g (.int .i64 (x)), .g (.int .i64 (y))], .agg [.g (.int .i64 (u)), .g (.int .i64 (v))]] (.t (.one (.g (.bool (alkB x y u v))))) := by
  simp only [dirB, decide_eq_true_eq] at d1 d2
  have k1 := dir_bd (M := 1000000) d1.1 d2.1
  refine CallsP_of Tryz.func204 rfl (by rw [Tryz.ntmps204]; simp) ?_
  simp only [Tryz.ntmps204, zM, PT.tv, argEnv, Nat.zero_add, Nat.reduceAdd]
  repeat' (first
 | ((with_reducible show AW _ _ _ _); first
 | (with_reducible first | refine aS (fun K hK => ?_) | refine aT ?_)
 | (first
 | (with_reducible first | refine aP 0 [0,1] ?_ | refine aP 1 [2,3] ?_)))
 | (((with_reducible refine Need.mk ?_)); focus (exact True.intro))
 | (with_reducible refine retK_n ?_)
 | ((with_reducible show callN _ _ _ _ _ _ _ _ _ _); first
 | (refine callN_q (k := 205) fnok_205 (rcross5_p x y u v (by omega) (by omega)) ?_ ?_))
 | ((fail_if_success (with_reducible show AW _ _ _ _)); simp (maxSteps := 2000000) only [go_sem, reduceIte, reduceCtorEq, xA, xL, xD, xE, xM, xS, xB, Tryz.f204])
 | ((fail_if_success (with_reducible show AW _ _ _ _)); simp (disch := omega) only [seaWrap, seaDiv, seaMod])
 | ((with_reducible refine hK _ ?_); clear hK K))
  all_goals ((unfold alkB; refine Bool.eq_iff_iff.2 ?_; simp only [Bool.and_eq_true, decide_eq_true_eq, beq_iff_eq, gt_iff_lt]; done))
theorem grhas_p (x y u v z w : Int) (d1 : dirB x y = true) (d2 : dirB u v = true) (d3 : dirB z w = true) : CallsP Tryz.prog 180 [.agg [.g (.int .i64 (x)), .g (.int .i64 (y))], .agg [.g (.int .i64 (u)), .g (.int .i64 (v))], .agg [.g (.int .i64 (z)), .g (.int .i64 (w))]] (.t (.one (.g (.bool (hasR x y u v z w))))) := by
  have e1 := d1; have e2 := d2; have e3 := d3
  simp only [dirB, decide_eq_true_eq] at d1 d2 d3
  have k1 := dir_bd (M := 1000000) d1.1 d2.1
  have k2 := dir_bd (M := 1000000) d1.1 d3.1
  have k3 := dir_bd (M := 1000000) d2.1 d3.1
  have k4 := dir_bd (M := 1000000) d3.1 d2.1
  refine CallsP_of Tryz.func180 rfl (by rw [Tryz.ntmps180]; simp) ?_
  simp only [Tryz.ntmps180, zM, PT.tv, argEnv, Nat.zero_add, Nat.reduceAdd]
  repeat' (first
 | ((with_reducible show AW _ _ _ _); first
 | (with_reducible first | refine aS (fun K hK => ?_) | refine aI ?_ | refine aT ?_ | refine aC ?_)
 | (first
 | (with_reducible first | refine aP 0 [0,1,2] ?_ | refine aP 1 [3,4,5] ?_ | refine aP 2 [] ?_ | refine aP 3 [3,4,5] ?_ | refine aP 4 [] ?_ | refine aP 5 [3,4,5] ?_ | refine aP 6 [3,4,5] ?_ | refine aP 7 [3,4,5] ?_)))
 | ((first | (with_reducible refine And.intro ?_ ?_) | (with_reducible refine Need.mk ?_)); focus (first | exact True.intro | (intro _; (with_reducible assumption)) | (simp; done)))
 | (with_reducible refine retK_n ?_)
 | ((with_reducible show condN _ _ _ _ _ _); first
 | ((with_reducible refine condN_t ?_ ?_) <;> (intro hc; (try simp only [zB, zC, reduceCtorEq] at hc); (try (exfalso; contradiction)))))
 | ((with_reducible show callN _ _ _ _ _ _ _ _ _ _); first
 | (refine callN_q (k := 204) fnok_204 (alk_p x y u v e1 e2) ?_ ?_)
 | (refine callN_q (k := 204) fnok_204 (alk_p u v z w e2 e3) ?_ ?_)
 | (refine callN_q (k := 205) fnok_205 (rcross5_p x y z w (by omega) (by omega)) ?_ ?_)
 | (refine callN_q (k := 205) fnok_205 (rcross5_p z w u v (by omega) (by omega)) ?_ ?_))
 | ((with_reducible show callGN _ _ _ _ _ _ _ _ _ _); first
 | (refine callGN_q (k := 204) fnok_204 (fun hg => alk_p x y z w e1 e3) ?_ ?_)
 | (refine callGN_q (k := 205) fnok_205 (fun hg => rcross5_p x y u v (by omega) (by omega)) ?_ ?_))
 | ((fail_if_success (with_reducible show AW _ _ _ _)); simp (maxSteps := 2000000) only [go_sem, reduceIte, reduceCtorEq, xA, xL, xD, xE, xM, xS, xB, Tryz.f180])
 | ((with_reducible refine hK _ ?_); clear hK K))
  all_goals (first | (unfold hasR; simp_all; done) | (unfold hasR; rw [if_neg (by simp_all), if_neg (by simp_all), if_neg (by omega)]; refine Bool.eq_iff_iff.2 ?_; simp only [Bool.and_eq_true, decide_eq_true_eq]))
end Go.Proofs.YtdhgiklbkmkblaaGreat
namespace Go.Proofs.YtdhgiklbkmkblaaGreat.Ph
def up (x y : Int) : Prop := 0 < y ∨ (y = 0 ∧ 0 < x)
theorem pos_of_mul {a b : Int} (ha : 0 < a) (h : 0 < a * b) : 0 < b := by
  rcases Int.lt_trichotomy b 0 with g | g | g
  · have := Int.mul_neg_of_pos_of_neg ha g; omega
  · subst g; simp at h
  · exact g
theorem nn_of_mul {a b : Int} (ha : 0 < a) (h : 0 ≤ a * b) : 0 ≤ b := by
  rcases Int.lt_or_le b 0 with g | g
  · have := Int.mul_neg_of_pos_of_neg ha g; omega
  · exact g
theorem z_of_mul {a b : Int} (ha : 0 < a) (h : a * b = 0) : b = 0 := by
  rcases Int.mul_eq_zero.1 h with g | g <;> omega
theorem idY (x y u v z w : Int) : v * (x * w - y * z) = w * (x * v - y * u) + y * (u * w - v * z) := by
  simp only [Int.mul_sub]
  have e1 : v * (x * w) = w * (x * v) := by rw [Int.mul_left_comm, Int.mul_comm v w, Int.mul_left_comm]
  have e2 : v * (y * z) = y * (v * z) := by rw [Int.mul_left_comm]
  have e3 : w * (y * u) = y * (u * w) := by rw [Int.mul_left_comm, Int.mul_comm w u]
  omega
theorem tr_pp {x y u v z w : Int} (ha : up x y) (hb : up u v) (hc : up z w) (h1 : 0 ≤ x * v - y * u) (h2 : 0 ≤ u * w - v * z) : 0 ≤ x * w - y * z ∧ (0 < x * v - y * u ∨ 0 < u * w - v * z → 0 < x * w - y * z) ∧ ((x * v - y * u = 0 ∧ u * w - v * z = 0) → x * w - y * z = 0) := by
  have I := idY x y u v z w
  unfold up at ha hb hc
  rcases hb with hb | ⟨hb, hb'⟩
  · have hy : 0 ≤ y := by omega
    have hw : 0 ≤ w := by omega
    have m1 := Int.mul_nonneg hw h1
    have m2 := Int.mul_nonneg hy h2
    refine ⟨nn_of_mul hb (by omega), ?_, ?_⟩
    · rintro (g | g)
      · rcases hc with hc | ⟨hc, hc'⟩
        · have := Int.mul_pos hc g
          exact pos_of_mul hb (by omega)
        · subst hc
          rcases ha with ha | ⟨ha, ha'⟩
          · exfalso; have := Int.mul_pos hb hc'; simp only [Int.mul_zero] at h2; omega
          · exfalso; have := Int.mul_pos hb hc'; simp only [Int.mul_zero] at h2; omega
      · rcases ha with ha | ⟨ha, ha'⟩
        · have := Int.mul_pos ha g
          exact pos_of_mul hb (by omega)
        · subst ha
          simp only [Int.zero_mul, Int.sub_zero]
          rcases hc with hc | ⟨hc, hc'⟩
          · exact Int.mul_pos ha' hc
          · exfalso; subst hc; have := Int.mul_pos hb hc'; simp only [Int.mul_zero] at h2; omega
    · rintro ⟨g1, g2⟩
      rw [g1, g2] at I
      simp only [Int.mul_zero, Int.add_zero] at I
      exact z_of_mul hb I
  · subst hb
    simp only [Int.mul_zero, Int.zero_mul, Int.sub_zero, Int.zero_sub] at h1 h2 ⊢
    have hy : y = 0 := by
      rcases ha with ha | ha
      · have := Int.mul_pos ha hb'; omega
      · exact ha.1
    subst hy
    simp only [Int.zero_mul, Int.sub_zero, Int.neg_zero] at *
    have hx : 0 < x := by omega
    have hw : 0 ≤ w := by omega
    refine ⟨Int.mul_nonneg (by omega) hw, ?_, ?_⟩
    · rintro (g | g)
      · omega
      · exact Int.mul_pos hx (pos_of_mul hb' g)
    · rintro ⟨-, g⟩
      rw [z_of_mul hb' g]; simp
theorem flip (x y u v : Int) : u * y - v * x = - (x * v - y * u) := by rw [Int.mul_comm u y, Int.mul_comm v x]; omega
theorem dot_up {x y u v : Int} (ha : up x y) (hb : up u v) (h : x * v - y * u = 0) : 0 < x * u + y * v := by
  unfold up at ha hb
  rcases ha with ha | ⟨ha, ha'⟩
  · rcases hb with hb | ⟨hb, hb'⟩
    · -- both heights positive: x v = y u
      have p := Int.mul_pos ha hb
      have e : x * v = y * u := by omega
      -- y v (x u) = (y u)(x v) ≥ 0
      have s : y * v * (x * u) = (x * v) * (x * v) := by
        have : y * v * (x * u) = (x * v) * (y * u) := by
          rw [Int.mul_comm x v, Int.mul_comm y v, Int.mul_assoc, Int.mul_assoc, Int.mul_left_comm y x u]
        rw [this, ← e]
      have q : 0 ≤ (x * v) * (x * v) := by
        rcases Int.le_total 0 (x * v) with g | g
        · exact Int.mul_nonneg g g
        · exact Int.mul_nonneg_of_nonpos_of_nonpos g g
      have := nn_of_mul p (by omega : 0 ≤ y * v * (x * u))
      omega
    · subst hb
      have := Int.mul_pos ha hb'
      simp only [Int.mul_zero] at h; omega
  · subst ha
    simp only [Int.zero_mul, Int.sub_zero, Int.add_zero] at h ⊢
    have hv := z_of_mul ha' h
    unfold up at *
    exact Int.mul_pos ha' (by omega)
end Go.Proofs.YtdhgiklbkmkblaaGreat.Ph
namespace Go.Proofs.YtdhgiklbkmkblaaGreat
def cmpQ (p q : Bool) (A : Int) : Int := if p = q then - sgn A else if p = true then -1 else 1
def sg2 (p q : Bool) (A : Int) : Int := if p = q then A else -A
def Tr3 (a c b : Int) : Prop := 0 ≤ a → 0 ≤ c → 0 ≤ b ∧ (0 < a ∨ 0 < c → 0 < b)
theorem sgn_p {z : Int} (h : 0 < z) : sgn z = 1 := by unfold sgn; rw [if_pos h]
theorem sgn_n {z : Int} (h : z < 0) : sgn z = -1 := by unfold sgn; rw [if_neg (by omega), if_pos h]
theorem sgn_0 {z : Int} (h : z = 0) : sgn z = 0 := by subst h; rfl
theorem has_abs0 (A B C D1 D2 D3 : Int) (hA : A = 0 → (0 < D1 ↔ false = false)) (hB : B = 0 → (0 < D2 ↔ false = false)) (hC : C = 0 → (0 < D3 ↔ false = false))
    (t1 : Tr3 (sg2 false false A) (sg2 false false C) (sg2 false false B)) (t2 : Tr3 (sg2 false false B) (-sg2 false false C) (sg2 false false A)) (t3 : Tr3 (-sg2 false false A) (sg2 false false B) (sg2 false false C))
    (t4 : Tr3 (sg2 false false C) (-sg2 false false B) (-sg2 false false A)) (t5 : Tr3 (-sg2 false false B) (sg2 false false A) (-sg2 false false C)) (t6 : Tr3 (-sg2 false false C) (-sg2 false false A) (-sg2 false false B)) :
    (if (decide (A = 0 ∧ 0 < D1) || decide (B = 0 ∧ 0 < D2)) = true then true else if decide (C = 0 ∧ 0 < D3) = true then false else if B > 0 then decide (-C > 0 ∨ A ≤ 0) else decide (-C > 0 ∧ A < 0))
    = (if cmpQ false false A = -1 then decide (cmpQ false false B ≤ 0) && !decide (cmpQ false false C ≤ 0) else if cmpQ false false A = 1 then decide (cmpQ false false B ≤ 0) || !decide (cmpQ false false C ≤ 0) else true) := by
  unfold Tr3 at t1 t2 t3 t4 t5 t6
  simp only [sg2, cmpQ, reduceCtorEq, if_true, if_false, iff_true, iff_false, if_neg Bool.false_ne_true, not_false_eq_true, Bool.true_eq_false, Bool.false_eq_true] at hA hB hC t1 t2 t3 t4 t5 t6 ⊢ <;>
    rcases Int.lt_trichotomy A 0 with a | a | a <;> rcases Int.lt_trichotomy B 0 with b | b | b <;> rcases Int.lt_trichotomy C 0 with c | c | c <;>
    first
    | (exfalso; omega)
    | (first | rw [sgn_n a] | rw [sgn_0 a] | rw [sgn_p a]
       first | rw [sgn_n b] | rw [sgn_0 b] | rw [sgn_p b]
       first | rw [sgn_n c] | rw [sgn_0 c] | rw [sgn_p c]
       refine Bool.eq_iff_iff.2 ?_
       simp only [Bool.or_eq_true, decide_eq_true_eq]
       repeat' split
       all_goals (try simp only [Bool.and_eq_true, Bool.or_eq_true, decide_eq_true_eq, Bool.not_eq_true', decide_eq_false_iff_not, iff_self, true_iff, iff_true, Bool.false_eq_true, false_iff, iff_false, Int.neg_neg])
       all_goals (first | omega | exact absurd True.intro (by assumption)))
theorem has_abs1 (A B C D1 D2 D3 : Int) (hA : A = 0 → (0 < D1 ↔ false = false)) (hB : B = 0 → (0 < D2 ↔ false = true)) (hC : C = 0 → (0 < D3 ↔ false = true))
    (t1 : Tr3 (sg2 false false A) (sg2 false true C) (sg2 false true B)) (t2 : Tr3 (sg2 false true B) (-sg2 false true C) (sg2 false false A)) (t3 : Tr3 (-sg2 false false A) (sg2 false true B) (sg2 false true C))
    (t4 : Tr3 (sg2 false true C) (-sg2 false true B) (-sg2 false false A)) (t5 : Tr3 (-sg2 false true B) (sg2 false false A) (-sg2 false true C)) (t6 : Tr3 (-sg2 false true C) (-sg2 false false A) (-sg2 false true B)) :
    (if (decide (A = 0 ∧ 0 < D1) || decide (B = 0 ∧ 0 < D2)) = true then true else if decide (C = 0 ∧ 0 < D3) = true then false else if B > 0 then decide (-C > 0 ∨ A ≤ 0) else decide (-C > 0 ∧ A < 0))
    = (if cmpQ false false A = -1 then decide (cmpQ false true B ≤ 0) && !decide (cmpQ false true C ≤ 0) else if cmpQ false false A = 1 then decide (cmpQ false true B ≤ 0) || !decide (cmpQ false true C ≤ 0) else true) := by
  unfold Tr3 at t1 t2 t3 t4 t5 t6
  simp only [sg2, cmpQ, reduceCtorEq, if_true, if_false, iff_true, iff_false, if_neg Bool.false_ne_true, not_false_eq_true, Bool.true_eq_false, Bool.false_eq_true] at hA hB hC t1 t2 t3 t4 t5 t6 ⊢ <;>
    rcases Int.lt_trichotomy A 0 with a | a | a <;> rcases Int.lt_trichotomy B 0 with b | b | b <;> rcases Int.lt_trichotomy C 0 with c | c | c <;>
    first
    | (exfalso; omega)
    | (first | rw [sgn_n a] | rw [sgn_0 a] | rw [sgn_p a]
       skip
       skip
       refine Bool.eq_iff_iff.2 ?_
       simp only [Bool.or_eq_true, decide_eq_true_eq]
       repeat' split
       all_goals (try simp only [Bool.and_eq_true, Bool.or_eq_true, decide_eq_true_eq, Bool.not_eq_true', decide_eq_false_iff_not, iff_self, true_iff, iff_true, Bool.false_eq_true, false_iff, iff_false, Int.neg_neg])
       all_goals (first | omega | exact absurd True.intro (by assumption)))
theorem has_abs2 (A B C D1 D2 D3 : Int) (hA : A = 0 → (0 < D1 ↔ false = true)) (hB : B = 0 → (0 < D2 ↔ false = false)) (hC : C = 0 → (0 < D3 ↔ true = false))
    (t1 : Tr3 (sg2 false true A) (sg2 true false C) (sg2 false false B)) (t2 : Tr3 (sg2 false false B) (-sg2 true false C) (sg2 false true A)) (t3 : Tr3 (-sg2 false true A) (sg2 false false B) (sg2 true false C))
    (t4 : Tr3 (sg2 true false C) (-sg2 false false B) (-sg2 false true A)) (t5 : Tr3 (-sg2 false false B) (sg2 false true A) (-sg2 true false C)) (t6 : Tr3 (-sg2 true false C) (-sg2 false true A) (-sg2 false false B)) :
    (if (decide (A = 0 ∧ 0 < D1) || decide (B = 0 ∧ 0 < D2)) = true then true else if decide (C = 0 ∧ 0 < D3) = true then false else if B > 0 then decide (-C > 0 ∨ A ≤ 0) else decide (-C > 0 ∧ A < 0))
    = (if cmpQ false true A = -1 then decide (cmpQ false false B ≤ 0) && !decide (cmpQ true false C ≤ 0) else if cmpQ false true A = 1 then decide (cmpQ false false B ≤ 0) || !decide (cmpQ true false C ≤ 0) else true) := by
  unfold Tr3 at t1 t2 t3 t4 t5 t6
  simp only [sg2, cmpQ, reduceCtorEq, if_true, if_false, iff_true, iff_false, if_neg Bool.false_ne_true, not_false_eq_true, Bool.true_eq_false, Bool.false_eq_true] at hA hB hC t1 t2 t3 t4 t5 t6 ⊢ <;>
    rcases Int.lt_trichotomy A 0 with a | a | a <;> rcases Int.lt_trichotomy B 0 with b | b | b <;> rcases Int.lt_trichotomy C 0 with c | c | c <;>
    first
    | (exfalso; omega)
    | (skip
       first | rw [sgn_n b] | rw [sgn_0 b] | rw [sgn_p b]
       skip
       refine Bool.eq_iff_iff.2 ?_
       simp only [Bool.or_eq_true, decide_eq_true_eq]
       repeat' split
       all_goals (try simp only [Bool.and_eq_true, Bool.or_eq_true, decide_eq_true_eq, Bool.not_eq_true', decide_eq_false_iff_not, iff_self, true_iff, iff_true, Bool.false_eq_true, false_iff, iff_false, Int.neg_neg])
       all_goals (omega))
theorem has_abs3 (A B C D1 D2 D3 : Int) (hA : A = 0 → (0 < D1 ↔ false = true)) (hB : B = 0 → (0 < D2 ↔ false = true)) (hC : C = 0 → (0 < D3 ↔ true = true))
    (t1 : Tr3 (sg2 false true A) (sg2 true true C) (sg2 false true B)) (t2 : Tr3 (sg2 false true B) (-sg2 true true C) (sg2 false true A)) (t3 : Tr3 (-sg2 false true A) (sg2 false true B) (sg2 true true C))
    (t4 : Tr3 (sg2 true true C) (-sg2 false true B) (-sg2 false true A)) (t5 : Tr3 (-sg2 false true B) (sg2 false true A) (-sg2 true true C)) (t6 : Tr3 (-sg2 true true C) (-sg2 false true A) (-sg2 false true B)) :
    (if (decide (A = 0 ∧ 0 < D1) || decide (B = 0 ∧ 0 < D2)) = true then true else if decide (C = 0 ∧ 0 < D3) = true then false else if B > 0 then decide (-C > 0 ∨ A ≤ 0) else decide (-C > 0 ∧ A < 0))
    = (if cmpQ false true A = -1 then decide (cmpQ false true B ≤ 0) && !decide (cmpQ true true C ≤ 0) else if cmpQ false true A = 1 then decide (cmpQ false true B ≤ 0) || !decide (cmpQ true true C ≤ 0) else true) := by
  unfold Tr3 at t1 t2 t3 t4 t5 t6
  simp only [sg2, cmpQ, reduceCtorEq, if_true, if_false, iff_true, iff_false, if_neg Bool.false_ne_true, not_false_eq_true, Bool.true_eq_false, Bool.false_eq_true] at hA hB hC t1 t2 t3 t4 t5 t6 ⊢ <;>
    rcases Int.lt_trichotomy A 0 with a | a | a <;> rcases Int.lt_trichotomy B 0 with b | b | b <;> rcases Int.lt_trichotomy C 0 with c | c | c <;>
    first
    | (exfalso; omega)
    | (skip
       skip
       first | rw [sgn_n c] | rw [sgn_0 c] | rw [sgn_p c]
       refine Bool.eq_iff_iff.2 ?_
       simp only [Bool.or_eq_true, decide_eq_true_eq]
       repeat' split
       all_goals (try simp only [Bool.and_eq_true, Bool.or_eq_true, decide_eq_true_eq, Bool.not_eq_true', decide_eq_false_iff_not, iff_self, true_iff, iff_true, Bool.false_eq_true, false_iff, iff_false, Int.neg_neg])
       all_goals (omega))
theorem has_abs4 (A B C D1 D2 D3 : Int) (hA : A = 0 → (0 < D1 ↔ true = false)) (hB : B = 0 → (0 < D2 ↔ true = false)) (hC : C = 0 → (0 < D3 ↔ false = false))
    (t1 : Tr3 (sg2 true false A) (sg2 false false C) (sg2 true false B)) (t2 : Tr3 (sg2 true false B) (-sg2 false false C) (sg2 true false A)) (t3 : Tr3 (-sg2 true false A) (sg2 true false B) (sg2 false false C))
    (t4 : Tr3 (sg2 false false C) (-sg2 true false B) (-sg2 true false A)) (t5 : Tr3 (-sg2 true false B) (sg2 true false A) (-sg2 false false C)) (t6 : Tr3 (-sg2 false false C) (-sg2 true false A) (-sg2 true false B)) :
    (if (decide (A = 0 ∧ 0 < D1) || decide (B = 0 ∧ 0 < D2)) = true then true else if decide (C = 0 ∧ 0 < D3) = true then false else if B > 0 then decide (-C > 0 ∨ A ≤ 0) else decide (-C > 0 ∧ A < 0))
    = (if cmpQ true false A = -1 then decide (cmpQ true false B ≤ 0) && !decide (cmpQ false false C ≤ 0) else if cmpQ true false A = 1 then decide (cmpQ true false B ≤ 0) || !decide (cmpQ false false C ≤ 0) else true) := by
  unfold Tr3 at t1 t2 t3 t4 t5 t6
  simp only [sg2, cmpQ, reduceCtorEq, if_true, if_false, iff_true, iff_false, if_neg Bool.false_ne_true, not_false_eq_true, Bool.true_eq_false, Bool.false_eq_true] at hA hB hC t1 t2 t3 t4 t5 t6 ⊢ <;>
    rcases Int.lt_trichotomy A 0 with a | a | a <;> rcases Int.lt_trichotomy B 0 with b | b | b <;> rcases Int.lt_trichotomy C 0 with c | c | c <;>
    first
    | (exfalso; omega)
    | (skip
       skip
       first | rw [sgn_n c] | rw [sgn_0 c] | rw [sgn_p c]
       refine Bool.eq_iff_iff.2 ?_
       simp only [Bool.or_eq_true, decide_eq_true_eq]
       repeat' split
       all_goals (try simp only [Bool.and_eq_true, Bool.or_eq_true, decide_eq_true_eq, Bool.not_eq_true', decide_eq_false_iff_not, iff_self, true_iff, iff_true, Bool.false_eq_true, false_iff, iff_false, Int.neg_neg])
       all_goals (omega))
theorem has_abs5 (A B C D1 D2 D3 : Int) (hA : A = 0 → (0 < D1 ↔ true = false)) (hB : B = 0 → (0 < D2 ↔ true = true)) (hC : C = 0 → (0 < D3 ↔ false = true))
    (t1 : Tr3 (sg2 true false A) (sg2 false true C) (sg2 true true B)) (t2 : Tr3 (sg2 true true B) (-sg2 false true C) (sg2 true false A)) (t3 : Tr3 (-sg2 true false A) (sg2 true true B) (sg2 false true C))
    (t4 : Tr3 (sg2 false true C) (-sg2 true true B) (-sg2 true false A)) (t5 : Tr3 (-sg2 true true B) (sg2 true false A) (-sg2 false true C)) (t6 : Tr3 (-sg2 false true C) (-sg2 true false A) (-sg2 true true B)) :
    (if (decide (A = 0 ∧ 0 < D1) || decide (B = 0 ∧ 0 < D2)) = true then true else if decide (C = 0 ∧ 0 < D3) = true then false else if B > 0 then decide (-C > 0 ∨ A ≤ 0) else decide (-C > 0 ∧ A < 0))
    = (if cmpQ true false A = -1 then decide (cmpQ true true B ≤ 0) && !decide (cmpQ false true C ≤ 0) else if cmpQ true false A = 1 then decide (cmpQ true true B ≤ 0) || !decide (cmpQ false true C ≤ 0) else true) := by
  unfold Tr3 at t1 t2 t3 t4 t5 t6
  simp only [sg2, cmpQ, reduceCtorEq, if_true, if_false, iff_true, iff_false, if_neg Bool.false_ne_true, not_false_eq_true, Bool.true_eq_false, Bool.false_eq_true] at hA hB hC t1 t2 t3 t4 t5 t6 ⊢ <;>
    rcases Int.lt_trichotomy A 0 with a | a | a <;> rcases Int.lt_trichotomy B 0 with b | b | b <;> rcases Int.lt_trichotomy C 0 with c | c | c <;>
    first
    | (exfalso; omega)
    | (skip
       first | rw [sgn_n b] | rw [sgn_0 b] | rw [sgn_p b]
       skip
       refine Bool.eq_iff_iff.2 ?_
       simp only [Bool.or_eq_true, decide_eq_true_eq]
       repeat' split
       all_goals (try simp only [Bool.and_eq_true, Bool.or_eq_true, decide_eq_true_eq, Bool.not_eq_true', decide_eq_false_iff_not, iff_self, true_iff, iff_true, Bool.false_eq_true, false_iff, iff_false, Int.neg_neg])
       all_goals (omega))
theorem has_abs6 (A B C D1 D2 D3 : Int) (hA : A = 0 → (0 < D1 ↔ true = true)) (hB : B = 0 → (0 < D2 ↔ true = false)) (hC : C = 0 → (0 < D3 ↔ true = false))
    (t1 : Tr3 (sg2 true true A) (sg2 true false C) (sg2 true false B)) (t2 : Tr3 (sg2 true false B) (-sg2 true false C) (sg2 true true A)) (t3 : Tr3 (-sg2 true true A) (sg2 true false B) (sg2 true false C))
    (t4 : Tr3 (sg2 true false C) (-sg2 true false B) (-sg2 true true A)) (t5 : Tr3 (-sg2 true false B) (sg2 true true A) (-sg2 true false C)) (t6 : Tr3 (-sg2 true false C) (-sg2 true true A) (-sg2 true false B)) :
    (if (decide (A = 0 ∧ 0 < D1) || decide (B = 0 ∧ 0 < D2)) = true then true else if decide (C = 0 ∧ 0 < D3) = true then false else if B > 0 then decide (-C > 0 ∨ A ≤ 0) else decide (-C > 0 ∧ A < 0))
    = (if cmpQ true true A = -1 then decide (cmpQ true false B ≤ 0) && !decide (cmpQ true false C ≤ 0) else if cmpQ true true A = 1 then decide (cmpQ true false B ≤ 0) || !decide (cmpQ true false C ≤ 0) else true) := by
  unfold Tr3 at t1 t2 t3 t4 t5 t6
  simp only [sg2, cmpQ, reduceCtorEq, if_true, if_false, iff_true, iff_false, if_neg Bool.false_ne_true, not_false_eq_true, Bool.true_eq_false, Bool.false_eq_true] at hA hB hC t1 t2 t3 t4 t5 t6 ⊢ <;>
    rcases Int.lt_trichotomy A 0 with a | a | a <;> rcases Int.lt_trichotomy B 0 with b | b | b <;> rcases Int.lt_trichotomy C 0 with c | c | c <;>
    first
    | (exfalso; omega)
    | (first | rw [sgn_n a] | rw [sgn_0 a] | rw [sgn_p a]
       skip
       skip
       refine Bool.eq_iff_iff.2 ?_
       simp only [Bool.or_eq_true, decide_eq_true_eq]
       repeat' split
       all_goals (try simp only [Bool.and_eq_true, Bool.or_eq_true, decide_eq_true_eq, Bool.not_eq_true', decide_eq_false_iff_not, iff_self, true_iff, iff_true, Bool.false_eq_true, false_iff, iff_false, Int.neg_neg])
       all_goals (first | omega | exact absurd True.intro (by assumption)))
theorem has_abs7 (A B C D1 D2 D3 : Int) (hA : A = 0 → (0 < D1 ↔ true = true)) (hB : B = 0 → (0 < D2 ↔ true = true)) (hC : C = 0 → (0 < D3 ↔ true = true))
    (t1 : Tr3 (sg2 true true A) (sg2 true true C) (sg2 true true B)) (t2 : Tr3 (sg2 true true B) (-sg2 true true C) (sg2 true true A)) (t3 : Tr3 (-sg2 true true A) (sg2 true true B) (sg2 true true C))
    (t4 : Tr3 (sg2 true true C) (-sg2 true true B) (-sg2 true true A)) (t5 : Tr3 (-sg2 true true B) (sg2 true true A) (-sg2 true true C)) (t6 : Tr3 (-sg2 true true C) (-sg2 true true A) (-sg2 true true B)) :
    (if (decide (A = 0 ∧ 0 < D1) || decide (B = 0 ∧ 0 < D2)) = true then true else if decide (C = 0 ∧ 0 < D3) = true then false else if B > 0 then decide (-C > 0 ∨ A ≤ 0) else decide (-C > 0 ∧ A < 0))
    = (if cmpQ true true A = -1 then decide (cmpQ true true B ≤ 0) && !decide (cmpQ true true C ≤ 0) else if cmpQ true true A = 1 then decide (cmpQ true true B ≤ 0) || !decide (cmpQ true true C ≤ 0) else true) := by
  unfold Tr3 at t1 t2 t3 t4 t5 t6
  simp only [sg2, cmpQ, reduceCtorEq, if_true, if_false, iff_true, iff_false, if_neg Bool.false_ne_true, not_false_eq_true, Bool.true_eq_false, Bool.false_eq_true] at hA hB hC t1 t2 t3 t4 t5 t6 ⊢ <;>
    rcases Int.lt_trichotomy A 0 with a | a | a <;> rcases Int.lt_trichotomy B 0 with b | b | b <;> rcases Int.lt_trichotomy C 0 with c | c | c <;>
    first
    | (exfalso; omega)
    | (first | rw [sgn_n a] | rw [sgn_0 a] | rw [sgn_p a]
       first | rw [sgn_n b] | rw [sgn_0 b] | rw [sgn_p b]
       first | rw [sgn_n c] | rw [sgn_0 c] | rw [sgn_p c]
       refine Bool.eq_iff_iff.2 ?_
       simp only [Bool.or_eq_true, decide_eq_true_eq]
       repeat' split
       all_goals (try simp only [Bool.and_eq_true, Bool.or_eq_true, decide_eq_true_eq, Bool.not_eq_true', decide_eq_false_iff_not, iff_self, true_iff, iff_true, Bool.false_eq_true, false_iff, iff_false, Int.neg_neg])
       all_goals (first | omega | exact absurd True.intro (by assumption)))
theorem has_abs (p q r : Bool) (A B C D1 D2 D3 : Int) (hA : A = 0 → (0 < D1 ↔ p = q)) (hB : B = 0 → (0 < D2 ↔ p = r)) (hC : C = 0 → (0 < D3 ↔ q = r))
    (t1 : Tr3 (sg2 p q A) (sg2 q r C) (sg2 p r B)) (t2 : Tr3 (sg2 p r B) (-sg2 q r C) (sg2 p q A)) (t3 : Tr3 (-sg2 p q A) (sg2 p r B) (sg2 q r C))
    (t4 : Tr3 (sg2 q r C) (-sg2 p r B) (-sg2 p q A)) (t5 : Tr3 (-sg2 p r B) (sg2 p q A) (-sg2 q r C)) (t6 : Tr3 (-sg2 q r C) (-sg2 p q A) (-sg2 p r B)) :
    (if (decide (A = 0 ∧ 0 < D1) || decide (B = 0 ∧ 0 < D2)) = true then true else if decide (C = 0 ∧ 0 < D3) = true then false else if B > 0 then decide (-C > 0 ∨ A ≤ 0) else decide (-C > 0 ∧ A < 0))
    = (if cmpQ p q A = -1 then decide (cmpQ p r B ≤ 0) && !decide (cmpQ q r C ≤ 0) else if cmpQ p q A = 1 then decide (cmpQ p r B ≤ 0) || !decide (cmpQ q r C ≤ 0) else true) := by
  cases p <;> cases q <;> cases r
  · exact has_abs0 A B C D1 D2 D3 hA hB hC t1 t2 t3 t4 t5 t6
  · exact has_abs1 A B C D1 D2 D3 hA hB hC t1 t2 t3 t4 t5 t6
  · exact has_abs2 A B C D1 D2 D3 hA hB hC t1 t2 t3 t4 t5 t6
  · exact has_abs3 A B C D1 D2 D3 hA hB hC t1 t2 t3 t4 t5 t6
  · exact has_abs4 A B C D1 D2 D3 hA hB hC t1 t2 t3 t4 t5 t6
  · exact has_abs5 A B C D1 D2 D3 hA hB hC t1 t2 t3 t4 t5 t6
  · exact has_abs6 A B C D1 D2 D3 hA hB hC t1 t2 t3 t4 t5 t6
  · exact has_abs7 A B C D1 D2 D3 hA hB hC t1 t2 t3 t4 t5 t6
theorem up_neg {x y : Int} (h : ¬ (x = 0 ∧ y = 0)) (g : upB x y = false) : Ph.up (-x) (-y) := by
  unfold upB at g; rw [decide_eq_false_iff_not] at g; unfold Ph.up; omega
theorem up_pos {x y : Int} (g : upB x y = true) : Ph.up x y := by unfold Ph.up; exact of_decide_eq_true g
def sx (p : Bool) (x : Int) : Int := if p = true then x else -x
theorem up_sx {x y : Int} (h : ¬ (x = 0 ∧ y = 0)) : Ph.up (sx (upB x y) x) (sx (upB x y) y) := by
  cases g : upB x y with
  | true => exact up_pos g
  | false => exact up_neg h g
theorem crs_sx (p q : Bool) (x y u v : Int) : sx p x * sx q v - sx p y * sx q u = sg2 p q (x * v - y * u) := by
  cases p <;> cases q <;> simp only [sx, sg2, Int.neg_mul, Int.mul_neg, Int.neg_neg, if_true, if_false, reduceCtorEq, Bool.false_eq_true] <;> omega
theorem dot_sx (p q : Bool) (x y u v : Int) : sx p x * sx q u + sx p y * sx q v = if p = q then x * u + y * v else -(x * u + y * v) := by
  cases p <;> cases q <;> simp only [sx, Int.neg_mul, Int.mul_neg, Int.neg_neg, if_true, if_false, reduceCtorEq, Bool.false_eq_true] <;> omega
theorem sg2_0 {p q : Bool} {A : Int} (h : A = 0) : sg2 p q A = 0 := by subst h; cases p <;> cases q <;> rfl
theorem al_sx {x y u v : Int} (hx : ¬ (x = 0 ∧ y = 0)) (hu : ¬ (u = 0 ∧ v = 0)) (h : x * v - y * u = 0) : 0 < x * u + y * v ↔ upB x y = upB u v := by
  have d := Ph.dot_up (up_sx hx) (up_sx hu) (by rw [crs_sx]; exact sg2_0 h)
  rw [dot_sx] at d
  constructor
  · intro g
    by_cases e : upB x y = upB u v
    · exact e
    · rw [if_neg e] at d; omega
  · intro e; rw [if_pos e] at d; exact d
theorem sg2_flip (p q : Bool) (A : Int) : sg2 q p (-A) = - sg2 p q A := by cases p <;> cases q <;> simp [sg2]
theorem tr_sx {x y u v z w : Int} (ha : ¬ (x = 0 ∧ y = 0)) (hb : ¬ (u = 0 ∧ v = 0)) (hc : ¬ (z = 0 ∧ w = 0)) : Tr3 (sg2 (upB x y) (upB u v) (x * v - y * u)) (sg2 (upB u v) (upB z w) (u * w - v * z)) (sg2 (upB x y) (upB z w) (x * w - y * z)) := by
  intro h1 h2
  rw [← crs_sx] at h1 h2 ⊢
  have h := Ph.tr_pp (up_sx ha) (up_sx hb) (up_sx hc) h1 h2
  rw [← crs_sx, ← crs_sx] 
  exact ⟨h.1, h.2.1⟩
theorem hasR_eq {x y u v z w : Int} (d1 : dirB x y = true) (d2 : dirB u v = true) (d3 : dirB z w = true) : hasR x y u v z w = hasP x y u v z w := by
  have n1 := (of_decide_eq_true d1).2
  have n2 := (of_decide_eq_true d2).2
  have n3 := (of_decide_eq_true d3).2
  have f1 : u * y - v * x = -(x * v - y * u) := Ph.flip x y u v
  have f2 : z * y - w * x = -(x * w - y * z) := Ph.flip x y z w
  have f3 : z * v - w * u = -(u * w - v * z) := Ph.flip u v z w
  have h := has_abs (upB x y) (upB u v) (upB z w) (x * v - y * u) (x * w - y * z) (u * w - v * z) (x * u + y * v) (x * z + y * w) (u * z + v * w) (al_sx n1 n2) (al_sx n1 n3) (al_sx n2 n3)
    (tr_sx n1 n2 n3)
    (by rw [← sg2_flip, ← f3]; exact tr_sx n1 n3 n2)
    (by rw [← sg2_flip, ← f1]; exact tr_sx n2 n1 n3)
    (by rw [← sg2_flip, ← sg2_flip, ← f2, ← f1]; exact tr_sx n2 n3 n1)
    (by rw [← sg2_flip, ← sg2_flip, ← f2, ← f3]; exact tr_sx n3 n1 n2)
    (by rw [← sg2_flip, ← sg2_flip, ← sg2_flip, ← f3, ← f1, ← f2]; exact tr_sx n3 n2 n1)
  unfold hasR hasP alkB
  rw [f3]
  exact h
end Go.Proofs.YtdhgiklbkmkblaaGreat
set_option maxRecDepth 100000
set_option maxHeartbeats 4000000
namespace Go.Proofs.YtdhgiklbkmkblaaGreat
open Go.RowKit Go.Sea
open Nat renaming reduceAdd → xA, reduceLT → xL, reduceLeDiff → xD, reduceEqDiff → xE, reduceMul → xM, reduceSub → xS, reduceBEq → xB
theorem ar_73 : arD Tryz.prog 73 = none := by kernel_rfl
theorem fnok_171 : fnOk Tryz.prog 171 = true := by kernel_rfl
theorem fnok_172 : fnOk Tryz.prog 172 = true := by kernel_rfl
theorem fnok_179 : fnOk Tryz.prog 179 = true := by kernel_rfl
theorem fnok_180 : fnOk Tryz.prog 180 = true := by kernel_rfl
theorem fnok_197 : fnOk Tryz.prog 197 = true := by kernel_rfl
theorem fnok_198 : fnOk Tryz.prog 198 = true := by kernel_rfl
theorem fnok_203 : fnOk Tryz.prog 203 = true := by kernel_rfl
theorem le_73 : lenD Tryz.prog 73 = some true := by kernel_rfl
theorem of_152_0 : offOf Tryz.prog 152 0 = some 0 := by kernel_rfl
theorem of_152_1 : offOf Tryz.prog 152 1 = some 2 := by kernel_rfl
theorem of_152_2 : offOf Tryz.prog 152 2 = some 4 := by kernel_rfl
theorem of_152_3 : offOf Tryz.prog 152 3 = some 5 := by kernel_rfl
theorem sl_73 : slD Tryz.prog 73 = some (6, 48, 152) := by kernel_rfl
theorem ty_152 : tyD Tryz.prog 152 = some (true, 6) := by kernel_rfl
theorem zc_152 : zeroC Tryz.prog 152 = some [.iv (.g (.int .i64 0)), .iv (.g (.int .i64 0)), .iv (.g (.int .i64 0)), .iv (.g (.int .i64 0)), .iv (.g (.int .i64 0)), .iv (.g (.int .i64 0))] := by kernel_rfl
attribute [go_sem] ar_73 fnok_171 fnok_172 fnok_179 fnok_180 fnok_197 fnok_198 fnok_203 le_73 of_152_0 of_152_1 of_152_2 of_152_3 sl_73 ty_152 zc_152
def secB (a b c d k r : Int) : Bool := decide (dirB a b = true ∧ dirB c d = true ∧ (1 ≤ k ∧ k ≤ 3) ∧ (1 ≤ r ∧ r ≤ 3000000))
def secI (S : Nat → Nat → Int) (i : Nat) : Bool := secB (S i 0) (S i 1) (S i 2) (S i 3) (S i 4) (S i 5)
def hasI (S : Nat → Nat → Int) (i j : Nat) : Bool := hasP (S i 0) (S i 1) (S i 2) (S i 3) (S j 0) (S j 1)
def secsO (S : Nat → Nat → Int) (i : Nat) : Prop := secI S i = true ∧ ∀ j, j < i → hasI S i j = false ∧ hasI S j i = false
instance (S : Nat → Nat → Int) (i : Nat) : Decidable (secsO S i) := by unfold secsO; infer_instance
def secsB (n : Nat) (S : Nat → Nat → Int) : Bool := decide (n ≤ 12 ∧ ∀ i, i < n → secsO S i)
theorem secs_f1 {n : Nat} {S : Nat → Nat → Int} {i : Nat} (hi : (i : Int) < n) (h : secB (S i 0) (S i 1) (S i 2) (S i 3) (S i 4) (S i 5) = false) : false = secsB n S :=
  (decide_eq_false fun g => by have := (g.2 i (by omega)).1; unfold secI at this; rw [h] at this; cases this).symm
theorem secs_f2 {n : Nat} {S : Nat → Nat → Int} {i j : Nat} (hi : (i : Int) < n) (hj : (j : Int) < i) (h : hasP (S i 0) (S i 1) (S i 2) (S i 3) (S j 0) (S j 1) = true) : false = secsB n S :=
  (decide_eq_false fun g => by have := ((g.2 i (by omega)).2 j (by omega)).1; unfold hasI at this; rw [h] at this; cases this).symm
theorem secs_f3 {n : Nat} {S : Nat → Nat → Int} {i j : Nat} (hi : (i : Int) < n) (hj : (j : Int) < i) (h : hasP (S j 0) (S j 1) (S j 2) (S j 3) (S i 0) (S i 1) = true) : false = secsB n S :=
  (decide_eq_false fun g => by have := ((g.2 i (by omega)).2 j (by omega)).2; unfold hasI at this; rw [h] at this; cases this).symm
theorem secs_f4 {n : Nat} {S : Nat → Nat → Int} (h : (n : Int) > 12) : false = secsB n S := (decide_eq_false fun g => by omega).symm
theorem secs_t {n i : Nat} {S : Nat → Nat → Int} (hi : i ≤ n) (h : (n : Int) ≤ i) (g : ∀ i', i' < i → secsO S i') : decide ((n : Int) ≤ 12) = secsB n S := by
  unfold secsB; refine decide_eq_decide.2 ⟨fun k => ⟨by omega, fun j hj => g j (by omega)⟩, fun k => by omega⟩
theorem secs_t2 {n i : Nat} {S : Nat → Nat → Int} (hn : (n : Int) ≤ 12) (hi : i ≤ n) (h : (n : Int) ≤ i) (g : ∀ i', i' < i → secsO S i') : true = secsB n S := by
  rw [← secs_t hi h g, decide_eq_true hn]
theorem sec_1 {a b c d k r : Int} (h : secB a b c d k r = true) : dirB a b = true := (of_decide_eq_true h).1
theorem sec_2 {a b c d k r : Int} (h : secB a b c d k r = true) : dirB c d = true := (of_decide_eq_true h).2.1
theorem ghas_p (x y u v p q z w : Int) (d1 : dirB x y = true) (d2 : dirB u v = true) (d3 : dirB z w = true) : CallsP Tryz.prog 172 [.agg [.g (.int .i64 (x)), .g (.int .i64 (y)), .g (.int .i64 (u)), .g (.int .i64 (v)), .g (.int .i64 (p)), .g (.int .i64 (q))], .agg [.g (.int .i64 (z)), .g (.int .i64 (w))]] (.t (.one (.g (.bool (hasP x y u v z w))))) := by
  simp only [dirB, decide_eq_true_eq] at d1 d2 d3
  have k1 := dir_bd (M := 1000000) d1.1 d2.1
  have k2 := dir_bd (M := 1000000) d1.1 d3.1
  have k3 := dir_bd (M := 1000000) d2.1 d3.1
  have v1 := cmpW_v x y u v
  refine CallsP_of Tryz.func172 rfl (by rw [Tryz.ntmps172]; simp) ?_
  simp only [Tryz.ntmps172, zM, PT.tv, argEnv, Nat.zero_add, Nat.reduceAdd]
  repeat' (first
 | ((with_reducible show AW _ _ _ _); first
 | (with_reducible first | refine aS (fun K hK => ?_) | refine aI ?_ | refine aT ?_ | refine aC ?_ | refine aB ?_)
 | (first
 | (with_reducible refine aP 0 [0,1] ?_)
 | ((with_reducible refine aR (c := Code.region 1 _ true) [2,3] ?_); (with_reducible refine aD ?_ ?_ ?_ ?_); (focus kernel_rfl); (focus kernel_rfl); (focus kernel_rfl))
 | ((with_reducible refine aR (c := Code.region 2 _ true) [3,5,6] ?_); (with_reducible refine aD ?_ ?_ ?_ ?_); (focus kernel_rfl); (focus kernel_rfl); (focus kernel_rfl))
 | (with_reducible first | refine aP 3 [5,6,7,8] ?_ | refine aP 4 [7,8,23] ?_ | refine aP 5 [7,8] ?_ | refine aP 6 [7,8,23] ?_ | refine aP 7 [7,8] ?_ | refine aP 8 [] ?_)))
 | ((first | (with_reducible refine And.intro ?_ ?_) | (with_reducible refine Need.mk ?_)); focus (first | exact True.intro | (simp; done)))
 | (with_reducible refine retK_n ?_)
 | ((with_reducible show condN _ _ _ _ _ _); first
 | ((with_reducible refine condN_t ?_ ?_) <;> (intro hc; (try simp only [zB, zC, reduceCtorEq] at hc); (try (exfalso; contradiction)))))
 | ((with_reducible refine And.intro ?_ ?_); focus ((with_reducible show chkR _ _ _ = true); kernel_rfl))
 | ((with_reducible show callN _ _ _ _ _ _ _ _ _ _); (refine callN_q (k := 198) fnok_198 (cmpW_p x y u v (by omega) (by omega)) ?_ ?_))
 | ((with_reducible show callDN _ _ _ _ _ _ _ _ _ _ _ _ _); first
 | (refine callDN_q (k := 198) fnok_198 (cmpW_p x y z w (by omega) (by omega)) ?_ ?_)
 | (refine callDN_q (k := 198) fnok_198 (cmpW_p u v z w (by omega) (by omega)) ?_ ?_))
 | ((fail_if_success (with_reducible show AW _ _ _ _)); simp (maxSteps := 2000000) only [go_sem, reduceIte, reduceCtorEq, xA, xL, xD, xE, xM, xS, xB, Tryz.f172])
 | ((with_reducible refine hK _ ?_); clear hK K))
  all_goals ((unfold hasP; simp_all; done))
theorem rhasP_p (x y u v z w : Int) (d1 : dirB x y = true) (d2 : dirB u v = true) (d3 : dirB z w = true) : CallsP Tryz.prog 180 [.agg [.g (.int .i64 (x)), .g (.int .i64 (y))], .agg [.g (.int .i64 (u)), .g (.int .i64 (v))], .agg [.g (.int .i64 (z)), .g (.int .i64 (w))]] (.t (.one (.g (.bool (hasP x y u v z w))))) := by
  rw [← hasR_eq d1 d2 d3]; exact grhas_p x y u v z w d1 d2 d3
theorem sec_p (a b c d k r : Int) : CallsP Tryz.prog 171 [.agg [.g (.int .i64 (a)), .g (.int .i64 (b)), .g (.int .i64 (c)), .g (.int .i64 (d)), .g (.int .i64 (k)), .g (.int .i64 (r))]] (.t (.one (.g (.bool (secB a b c d k r))))) := by
  refine CallsP_of Tryz.func171 rfl (by rw [Tryz.ntmps171]; simp) ?_
  simp only [Tryz.ntmps171, zM, PT.tv, argEnv, Nat.zero_add, Nat.reduceAdd]
  repeat' (first
 | ((with_reducible show AW _ _ _ _); first
 | (with_reducible first | refine aS (fun K hK => ?_) | refine aT ?_)
 | (first
 | (with_reducible first | refine aP 0 [0] ?_ | refine aP 1 [1] ?_)))
 | (((with_reducible refine Need.mk ?_)); focus (first | exact True.intro | (intro _; (with_reducible assumption))))
 | (with_reducible refine retK_n ?_)
 | ((with_reducible show callN _ _ _ _ _ _ _ _ _ _); (refine callN_q (k := 197) fnok_197 (wok_p a b) ?_ ?_))
 | ((with_reducible show callGN _ _ _ _ _ _ _ _ _ _); (refine callGN_q (k := 197) fnok_197 (fun hg => wok_p c d) ?_ ?_))
 | ((fail_if_success (with_reducible show AW _ _ _ _)); simp (maxSteps := 2000000) only [go_sem, reduceIte, reduceCtorEq, xA, xL, xD, xE, xM, xS, xB, Tryz.f171])
 | ((with_reducible refine hK _ ?_); clear hK K))
  all_goals ((unfold secB; refine Bool.eq_iff_iff.2 ?_; simp only [Bool.and_eq_true, decide_eq_true_eq, ge_iff_le, and_assoc]; done))
theorem rsec_p (a b c d k r : Int) : CallsP Tryz.prog 179 [.agg [.g (.int .i64 (a)), .g (.int .i64 (b)), .g (.int .i64 (c)), .g (.int .i64 (d)), .g (.int .i64 (k)), .g (.int .i64 (r))]] (.t (.one (.g (.bool (secB a b c d k r))))) := by
  refine CallsP_of Tryz.func179 rfl (by rw [Tryz.ntmps179]; simp) ?_
  simp only [Tryz.ntmps179, zM, PT.tv, argEnv, Nat.zero_add, Nat.reduceAdd]
  repeat' (first
 | ((with_reducible show AW _ _ _ _); first
 | (with_reducible first | refine aS (fun K hK => ?_) | refine aT ?_)
 | (first
 | (with_reducible first | refine aP 0 [0] ?_ | refine aP 1 [1] ?_ | refine aP 2 [1,3] ?_ | refine aP 3 [1,3,4] ?_)))
 | (((with_reducible refine Need.mk ?_)); focus (exact True.intro))
 | (with_reducible refine retK_n ?_)
 | ((with_reducible show callN _ _ _ _ _ _ _ _ _ _); first
 | (refine callN_q (k := 203) fnok_203 (rdir_p a b) ?_ ?_)
 | (refine callN_q (k := 203) fnok_203 (rdir_p c d) ?_ ?_))
 | ((fail_if_success (with_reducible show AW _ _ _ _)); simp (maxSteps := 2000000) only [go_sem, reduceIte, reduceCtorEq, xA, xL, xD, xE, xM, xS, xB, Tryz.f179])
 | ((with_reducible refine hK _ ?_); clear hK K))
  all_goals ((unfold secB; refine Bool.eq_iff_iff.2 ?_; simp only [Bool.and_eq_true, decide_eq_true_eq, ge_iff_le, and_assoc]; done))
theorem Secs_p (n : Nat) (S : Nat → Nat → Int) (hn : n ≤ 9223372036854775807) : CallsP Tryz.prog 148 [.one (.lst 6 n (ptI S))] (.t (.one (.g (.bool (secsB n S))))) := by
  refine CallsP_of Tryz.func148 rfl (by rw [Tryz.ntmps148]; simp) ?_
  simp only [Tryz.ntmps148, zM, PT.tv, argEnv, Nat.zero_add, Nat.reduceAdd]
  repeat' (first
 | ((with_reducible show AW _ _ _ _); first
 | (with_reducible first | refine aS (fun K hK => ?_) | refine aI ?_ | refine aX ?_ | refine aT ?_ | refine aC ?_ | refine aB ?_)
 | (first
 | (with_reducible first | refine aP 0 [0] ?_ | refine aP 1 [0] ?_ | refine aP 2 [0,7,8,9] ?_ | refine aP 3 [0,7,8,9] ?_ | refine aP 4 [0,3,4,7,8,9] ?_ | refine aP 5 [] ?_ | refine aP 6 [0,3,4,7,8,9] ?_ | refine aP 7 [0,4,7,8,9,19,20,21] ?_ | refine aP 8 [0,4,7,8,9,19,20,21] ?_ | refine aP 9 [0,4,6,7,8,9,19,20,21] ?_ | refine aP 10 [] ?_ | refine aP 11 [0,4,7,8,9,19,20,21] ?_ | refine aP 12 [0,7,8,9] ?_ | refine aP 13 [0] ?_))
 | ((with_reducible show AW _ (Code.loop _) _ _); first
 | ((with_reducible refine aL (c := (Code.seq (Code.region 2 _ _) _)) (ι := Nat) [0,7,8] (fun i => [(9, iA .i64 (i : Int))]) (fun i => []) (fun i => i ≤ n ∧ (∀ i', i' < i → secsO S i')) (fun i => n - i) 0 ?lg2 ?l12 ?l22 ?li2 ?lr2); (case' lg2 => rintro i _); (case' li2 => try (exact ⟨Nat.zero_le _, fun i hi => absurd hi (Nat.not_lt_zero _)⟩)); (case' lr2 => rintro i ⟨hi, hai⟩ KR hR2; simp only [keepE, hupd, hset, lk, if_true, if_false, xE, reduceIte, zN]))
 | ((with_reducible refine aL (c := (Code.seq (Code.region 7 _ _) _)) (ι := Nat) [0,4,7,8,9,19,20] (fun j => [(21, iA .i64 (j : Int))]) (fun j => []) (fun j => j ≤ i ∧ secI S i = true ∧ (∀ j', j' < j → hasI S i j' = false ∧ hasI S j' i = false)) (fun j => i - j) 0 ?lg7 ?l17 ?l27 ?li7 ?lr7); (case' lg7 => rintro j _); (case' li7 => try (exact ⟨Nat.zero_le _, by assumption, fun i hi => absurd hi (Nat.not_lt_zero _)⟩)); (case' lr7 => rintro j ⟨hj, hsi, haj⟩ KR hR7; simp only [keepE, hupd, hset, lk, if_true, if_false, xE, reduceIte, zN]))))
 | ((first | (with_reducible refine And.intro ?_ ?_) | (with_reducible refine Need.mk ?_)); focus (first | exact True.intro | omega | (intro _; (with_reducible assumption)) | (simp; done)))
 | (with_reducible refine retK_n ?_)
 | ((with_reducible show condN _ _ _ _ _ _); first
 | ((with_reducible refine condN_t ?_ ?_) <;> (intro hc; (try simp only [zB, zC, reduceCtorEq] at hc); (try (exfalso; contradiction)))))
 | ((with_reducible show callN _ _ _ _ _ _ _ _ _ _); first
 | (refine callN_q (k := 171) fnok_171 (sec_p _ _ _ _ _ _) ?_ ?_)
 | (refine callN_q (k := 172) fnok_172 (ghas_p _ _ _ _ _ _ _ _ (sec_1 hsi) (sec_2 hsi) (sec_1 (hai _ (by omega)).1)) ?_ ?_))
 | ((with_reducible show callGN _ _ _ _ _ _ _ _ _ _); (refine callGN_q (k := 172) fnok_172 (fun hg => ghas_p _ _ _ _ _ _ _ _ (sec_1 (hai _ (by omega)).1) (sec_2 (hai _ (by omega)).1) (sec_1 hsi)) ?_ ?_))
 | ((with_reducible refine hR2 _ (i + 1) ?_); (try clear hR2 KR))
 | ((with_reducible refine hR7 _ (j + 1) ?_); (try clear hR7 KR))
 | ((with_reducible refine Told.mk ?_); simp only [go_sem, reduceIte, reduceCtorEq, xA, xL, xD, xE, xM, xS, xB, ptI] <;> ((((try simp (disch := omega) only [seaWrap, Int.natCast_add, Int.cast_ofNat_Int, and_true, true_and, and_self]); (repeat' (first | omega | (with_reducible refine And.intro ?_ ?_) | (exact all_succ (by assumption) (by assumption)) | ((exact all_succ (by assumption) ⟨by assumption, fun j hj => haj j (by omega)⟩)))); done))))
 | ((fail_if_success (with_reducible show AW _ _ _ _)); simp (maxSteps := 2000000) only [go_sem, reduceIte, reduceCtorEq, xA, xL, xD, xE, xM, xS, xB, Tryz.f148, ptI])
 | ((with_reducible refine hK _ ?_); clear hK K)
 | (with_reducible apply_assumption -exfalso only [*]))
  all_goals (first | exact secs_f1 (by assumption) (by assumption) | exact Or.elim (by assumption) (secs_f2 (by omega) (by omega)) (secs_f3 (by omega) (by omega)) | exact secs_t (by assumption) (by assumption) (by assumption))
theorem rSecs_p (n : Nat) (S : Nat → Nat → Int) (hn : n ≤ 9223372036854775807) : CallsP Tryz.prog 159 [.one (.lst 6 n (ptI S))] (.t (.one (.g (.bool (secsB n S))))) := by
  refine CallsP_of Tryz.func159 rfl (by rw [Tryz.ntmps159]; simp) ?_
  simp only [Tryz.ntmps159, zM, PT.tv, argEnv, Nat.zero_add, Nat.reduceAdd]
  repeat' (first
 | ((with_reducible show AW _ _ _ _); first
 | (with_reducible first | refine aS (fun K hK => ?_) | refine aI ?_ | refine aX ?_ | refine aT ?_ | refine aC ?_ | refine aB ?_)
 | (first
 | (with_reducible first | refine aP 0 [0] ?_ | refine aP 1 [0] ?_ | refine aP 2 [] ?_ | refine aP 3 [0] ?_ | refine aP 4 [0,3] ?_ | refine aP 5 [0,3] ?_ | refine aP 6 [0,3] ?_ | refine aP 7 [0,3,4] ?_ | refine aP 8 [] ?_ | refine aP 9 [0,3] ?_ | refine aP 10 [0,3,5] ?_ | refine aP 11 [0,3,5] ?_)
 | ((with_reducible refine aR (c := Code.region 12 _ true) [0,3,5] ?_); (with_reducible refine aD ?_ ?_ ?_ ?_); (focus kernel_rfl); (focus kernel_rfl); (focus kernel_rfl))
 | (with_reducible first | refine aP 13 [] ?_ | refine aP 14 [] ?_))
 | ((with_reducible show AW _ (Code.loop _) _ _); first
 | ((with_reducible refine aL (c := (Code.seq (Code.seq (Code.region 4 _ _) _) _)) (ι := Nat) [0] (fun i => [(3, iA .i64 (i : Int))]) (fun i => []) (fun i => i ≤ n ∧ (∀ i', i' < i → secsO S i')) (fun i => n - i) 0 ?lg4 ?l14 ?l24 ?li4 ?lr4); (case' lg4 => rintro i _); (case' li4 => try (exact ⟨Nat.zero_le _, fun i hi => absurd hi (Nat.not_lt_zero _)⟩)); (case' lr4 => rintro i ⟨hi, hai⟩ KR hR4; simp only [keepE, hupd, hset, lk, if_true, if_false, xE, reduceIte, zN]))
 | ((with_reducible refine aL (c := (Code.seq (Code.seq (Code.region 10 _ _) _) _)) (ι := Nat) [0,3] (fun j => [(5, iA .i64 (j : Int))]) (fun j => []) (fun j => j ≤ i ∧ secI S i = true ∧ (∀ j', j' < j → hasI S i j' = false ∧ hasI S j' i = false)) (fun j => i - j) 0 ?lg10 ?l110 ?l210 ?li10 ?lr10); (case' lg10 => rintro j _); (case' li10 => try (exact ⟨Nat.zero_le _, by assumption, fun i hi => absurd hi (Nat.not_lt_zero _)⟩)); (case' lr10 => rintro j ⟨hj, hsi, haj⟩ KR hR10; simp only [keepE, hupd, hset, lk, if_true, if_false, xE, reduceIte, zN]))))
 | ((first | (with_reducible refine And.intro ?_ ?_) | (with_reducible refine Need.mk ?_)); focus (first | exact True.intro | omega | (intro _; (with_reducible assumption)) | (intros; (repeat' (first | omega | (with_reducible refine And.intro ?_ ?_))); done) | (simp; done)))
 | (with_reducible refine retK_n ?_)
 | ((with_reducible show condN _ _ _ _ _ _); first
 | ((with_reducible refine condN_t ?_ ?_) <;> (intro hc; (try simp only [zB, zC, reduceCtorEq] at hc); (try (exfalso; contradiction)))))
 | ((with_reducible refine And.intro ?_ ?_); focus ((with_reducible show chkR _ _ _ = true); kernel_rfl))
 | ((with_reducible show callN _ _ _ _ _ _ _ _ _ _); first
 | (refine callN_q (k := 179) fnok_179 (rsec_p _ _ _ _ _ _) ?_ ?_))
 | ((with_reducible show callDN _ _ _ _ _ _ _ _ _ _ _ _ _); (refine callDN_q (k := 180) fnok_180 (rhasP_p _ _ _ _ _ _ (sec_1 hsi) (sec_2 hsi) (sec_1 (hai _ (by omega)).1)) ?_ ?_))
 | ((with_reducible show callDGN _ _ _ _ _ _ _ _ _ _ _ _ _); (refine callDGN_q (k := 180) fnok_180 (fun hg => rhasP_p _ _ _ _ _ _ (sec_1 (hai _ (by omega)).1) (sec_2 (hai _ (by omega)).1) (sec_1 hsi)) ?_ ?_))
 | ((with_reducible refine hR4 _ (i + 1) ?_); (try clear hR4 KR))
 | ((with_reducible refine hR10 _ (j + 1) ?_); (try clear hR10 KR))
 | ((with_reducible refine Told.mk ?_); simp only [go_sem, reduceIte, reduceCtorEq, xA, xL, xD, xE, xM, xS, xB, ptI] <;> ((((try simp (disch := omega) only [seaWrap, Int.natCast_add, Int.cast_ofNat_Int, and_true, true_and, and_self]); (repeat' (first | omega | (with_reducible refine And.intro ?_ ?_) | (exact all_succ (by assumption) (by assumption)) | ((exact all_succ (by assumption) ⟨by assumption, fun j hj => haj j (by omega)⟩)))); done))))
 | ((fail_if_success (with_reducible show AW _ _ _ _)); simp (maxSteps := 2000000) only [go_sem, reduceIte, reduceCtorEq, xA, xL, xD, xE, xM, xS, xB, Tryz.f159, ptI])
 | ((with_reducible refine hK _ ?_); clear hK K)
 | (with_reducible apply_assumption -exfalso only [*]))
  all_goals (first | exact secs_f1 (by assumption) (by assumption) | exact Or.elim (by assumption) (secs_f2 (by omega) (by omega)) (secs_f3 (by omega) (by omega)) | exact secs_f4 (by assumption) | exact secs_t2 (by assumption) (by assumption) (by assumption) (by assumption))
end Go.Proofs.YtdhgiklbkmkblaaGreat
set_option maxRecDepth 100000
set_option maxHeartbeats 4000000
namespace Go.Proofs.YtdhgiklbkmkblaaGreat
open Go.RowKit Go.Sea
open Nat renaming reduceAdd → xA, reduceLT → xL, reduceLeDiff → xD, reduceEqDiff → xE, reduceMul → xM, reduceSub → xS, reduceBEq → xB
theorem ar_176 : arD Tryz.prog 176 = none := by kernel_rfl
theorem ar_24 : arD Tryz.prog 24 = none := by kernel_rfl
theorem fnok_193 : fnOk Tryz.prog 193 = true := by kernel_rfl
theorem fnok_194 : fnOk Tryz.prog 194 = true := by kernel_rfl
theorem fnok_199 : fnOk Tryz.prog 199 = true := by kernel_rfl
theorem fnok_200 : fnOk Tryz.prog 200 = true := by kernel_rfl
theorem fnok_201 : fnOk Tryz.prog 201 = true := by kernel_rfl
theorem fnok_217 : fnOk Tryz.prog 217 = true := by kernel_rfl
theorem le_176 : lenD Tryz.prog 176 = some true := by kernel_rfl
theorem le_24 : lenD Tryz.prog 24 = some true := by kernel_rfl
theorem sl_176 : slD Tryz.prog 176 = some (2, 16, 71) := by kernel_rfl
theorem sl_24 : slD Tryz.prog 24 = some (1, 8, 3) := by kernel_rfl
theorem zc_3 : zeroC Tryz.prog 3 = some [.iv (.g (.int .i64 0))] := by kernel_rfl
attribute [go_sem] ar_176 ar_24 fnok_193 fnok_194 fnok_199 fnok_200 fnok_201 fnok_217 le_176 le_24 sl_176 sl_24 zc_3
def orV (a b : Int) : Int := if a = 0 then b else a
def ordV (x y u v : Int) : Int := orV (if x < u then -1 else if u < x then 1 else 0) (if y < v then -1 else if v < y then 1 else 0)
theorem f2_0 (a b : Int) (o : Nat) : f2 a b 0 o = .g (.int .i64 a) := rfl
theorem f2_1 (a b : Int) (o : Nat) : f2 a b 1 o = .g (.int .i64 b) := rfl
theorem sgn_z {z : Int} : sgn z = 0 ↔ z = 0 := by
  unfold sgn; split
  · omega
  · split <;> omega
theorem trn_0 {ax ay bx by' cx cy : Int} : trn ax ay bx by' cx cy = 0 ↔ (bx - ax) * (cy - ay) - (by' - ay) * (cx - ax) = 0 := sgn_z
theorem ordV_lt (x y u v : Int) : (ordV x y u v ≥ 0) ↔ ¬ (x < u ∨ (x = u ∧ y < v)) := by
  unfold ordV orV
  repeat' split
  all_goals omega
theorem or_p (a b : Int) : CallsP Tryz.prog 193 [.one (.lst 1 2 (f2 a b))] (.t (.one (.g (.int .i64 (orV a b))))) := by
  refine CallsP_of Tryz.func193 rfl (by rw [Tryz.ntmps193]; simp) ?_
  simp only [Tryz.ntmps193, zM, PT.tv, argEnv, Nat.zero_add, Nat.reduceAdd]
  repeat' (first
 | ((with_reducible show AW _ _ _ _); first
 | (with_reducible first | refine aS (fun K hK => ?_) | refine aI ?_ | refine aX ?_ | refine aT ?_ | refine aC ?_ | refine aB ?_)
 | (first
 | (with_reducible first | refine aP 0 [0] ?_ | refine aP 1 [0] ?_ | refine aP 2 [0,3] ?_ | refine aP 3 [3,6,7,8] ?_ | refine aP 4 [3,6,7,8] ?_ | refine aP 5 [3,5,6,7,8] ?_ | refine aP 6 [5] ?_ | refine aP 7 [3,6,7,8] ?_ | refine aP 8 [3] ?_))
 | ((with_reducible show AW _ (Code.loop _) _ _); first
 | ((with_reducible refine aL (c := (Code.seq (Code.region 3 _ _) _)) (ι := Nat) [3,6,7] (fun i => [(8, iA .i64 (i : Int))]) (fun i => []) (fun i => i ≤ 2 ∧ (0 < i → a = 0) ∧ (1 < i → b = 0)) (fun i => 2 - i) 0 ?lg3 ?l13 ?l23 ?li3 ?lr3); (case' lg3 => rintro i _); (case' li3 => try (exact ⟨by omega, by omega, by omega⟩)); (case' lr3 => rintro i ⟨hi, hx1, hx2⟩ KR hR3; (rcases (by omega : i = 0 ∨ i = 1 ∨ i = 2) with hz | hz | hz <;> subst hz); simp only [keepE, hupd, hset, lk, if_true, if_false, xE, reduceIte, zN, f2_0, f2_1]))))
 | (((with_reducible refine And.intro ?_ ?_)); focus (omega))
 | (with_reducible refine retK_n ?_)
 | ((with_reducible show condN _ _ _ _ _ _); first
 | ((with_reducible refine condN_t ?_ ?_) <;> (intro hc; (try simp only [zB, zC, reduceCtorEq] at hc); (try (exfalso; contradiction)))))
 | ((with_reducible refine hR3 _ 1 ?_); (try clear hR3 KR); (with_reducible refine Told.mk ?_); simp only [go_sem, reduceIte, reduceCtorEq, xA, xL, xD, xE, xM, xS, xB, f2_0, f2_1]; ((try simp (disch := omega) only [seaWrap, Int.natCast_add, Int.cast_ofNat_Int, and_true, true_and, and_self]); (repeat' (omega )); done))
 | ((with_reducible refine hR3 _ 2 ?_); (try clear hR3 KR); (with_reducible refine Told.mk ?_); simp only [go_sem, reduceIte, reduceCtorEq, xA, xL, xD, xE, xM, xS, xB, f2_0, f2_1]; (((try simp (disch := omega) only [seaWrap, Int.natCast_add, Int.cast_ofNat_Int, and_true, true_and, and_self]); (repeat' (omega )); done)))
 | ((with_reducible refine Told.mk ?_); simp only [go_sem, reduceIte, reduceCtorEq, xA, xL, xD, xE, xM, xS, xB, f2_0, f2_1] <;> ((((try simp (disch := omega) only [seaWrap, Int.natCast_add, Int.cast_ofNat_Int, and_true, true_and, and_self]); (repeat' (exact True.intro )); done))))
 | ((fail_if_success (with_reducible show AW _ _ _ _)); simp (maxSteps := 2000000) only [go_sem, reduceIte, reduceCtorEq, xA, xL, xD, xE, xM, xS, xB, Tryz.f193, f2_0, f2_1])
 | ((with_reducible refine hK _ ?_); clear hK K)
 | (with_reducible apply_assumption -exfalso only [*]))
  all_goals ((unfold orV; first | (rw [if_pos (by omega)]; omega) | (rw [if_neg (by omega)]) | (split <;> omega)))
theorem or_q (a b : Int) {F : Nat → Nat → IV} (hF : ∀ i o, i < 2 → o < 1 → (F i o).eqv (f2 a b i o)) : CallsP Tryz.prog 193 [.one (.lst 1 2 F)] (.t (.one (.g (.int .i64 (orV a b))))) :=
  (or_p a b).eqv ⟨⟨rfl, rfl, hF⟩, trivial⟩ (PV.eqv_refl _)
theorem order_p (x y u v : Int) : CallsP Tryz.prog 166 [.agg [.g (.int .i64 (x)), .g (.int .i64 (y))], .agg [.g (.int .i64 (u)), .g (.int .i64 (v))]] (.t (.one (.g (.int .i64 (ordV x y u v))))) := by
  refine CallsP_of Tryz.func166 rfl (by rw [Tryz.ntmps166]; simp) ?_
  simp only [Tryz.ntmps166, zM, PT.tv, argEnv, Nat.zero_add, Nat.reduceAdd]
  repeat' (first
 | ((with_reducible show callDN _ _ _ _ _ _ _ _ _ _ _ _ _); first
 | ((refine callDN_q (k := 193) fnok_193 (or_q (if x < u then -1 else if u < x then 1 else 0) (if y < v then -1 else if v < y then 1 else 0) ?_) ?_ ?_); (focus (intro i o hi ho; rcases i with _ | _ | i <;> first | omega | (rcases o with _ | o <;> first | omega | exact IV.eqv_refl _))))
 | (refine callDN_q (k := 98) fnok_98 (gcmp_p x u) ?_ ?_)
 | (refine callDN_q (k := 98) fnok_98 (gcmp_p y v) ?_ ?_))
 | ((with_reducible show AW _ _ _ _); first
 | (with_reducible first | refine aS (fun K hK => ?_) | refine aT ?_)
 | (first
 | (with_reducible refine aP 0 [0,1] ?_)
 | ((with_reducible refine aR (c := Code.region 1 _ true) [2,3] ?_); (with_reducible refine aD ?_ ?_ ?_ ?_); (focus kernel_rfl); (focus kernel_rfl); (focus kernel_rfl))))
 | ((first | (with_reducible refine And.intro ?_ ?_) | (with_reducible refine Need.mk ?_)); focus (exact True.intro))
 | (with_reducible refine retK_n ?_)
 | ((with_reducible refine And.intro ?_ ?_); focus ((with_reducible show chkR _ _ _ = true); kernel_rfl))
 | ((fail_if_success (with_reducible show AW _ _ _ _)); simp (maxSteps := 2000000) only [go_sem, reduceIte, reduceCtorEq, xA, xL, xD, xE, xM, xS, xB, Tryz.f166])
 | ((with_reducible refine hK _ ?_); clear hK K))
  all_goals (rfl)
theorem pturn_p (ax ay bx by' cx cy : Int) : CallsP Tryz.prog 167 [.agg [.g (.int .i64 (ax)), .g (.int .i64 (ay))], .agg [.g (.int .i64 (bx)), .g (.int .i64 (by'))], .agg [.g (.int .i64 (cx)), .g (.int .i64 (cy))]] (.t (.one (.g (.int .i64 (tvV ax ay bx by' cx cy))))) := by
  refine CallsP_of Tryz.func167 rfl (by rw [Tryz.ntmps167]; simp) ?_
  simp only [Tryz.ntmps167, zM, PT.tv, argEnv, Nat.zero_add, Nat.reduceAdd]
  repeat' (first
 | ((with_reducible show AW _ _ _ _); first
 | (with_reducible first | refine aS (fun K hK => ?_) | refine aT ?_)
 | (first
 | (with_reducible first | refine aP 0 [0,1,2] ?_ | refine aP 1 [3,4,5] ?_ | refine aP 2 [7] ?_)))
 | (((with_reducible refine Need.mk ?_)); focus (exact True.intro))
 | (with_reducible refine retK_n ?_)
 | ((with_reducible show callN _ _ _ _ _ _ _ _ _ _); first
 | (refine callN_q (k := 194) fnok_194 (Turn_p _ _ _ _ _ _) ?_ ?_))
 | ((fail_if_success (with_reducible show AW _ _ _ _)); simp (maxSteps := 2000000) only [go_sem, reduceIte, reduceCtorEq, xA, xL, xD, xE, xM, xS, xB, Tryz.f167])
 | ((with_reducible refine hK _ ?_); clear hK K))
def ixN (n : Nat) (i : Int) : Nat := ((i + n) % n).toNat
theorem corner_p (n : Nat) (P : Nat → Nat → Int) (i : Int) (hn : 0 < n ∧ n ≤ 1000) (hi : -1 ≤ i ∧ i ≤ 1000) : CallsP Tryz.prog 168 [.one (.lst 2 n (ptI P)), .one (.g (.int .i64 (i)))] (.t (.agg [.g (.int .i64 (P (ixN n i) 0)), .g (.int .i64 (P (ixN n i) 1))])) := by
  have hm : 0 ≤ (i + (n : Int)) % (n : Int) ∧ (i + (n : Int)) % (n : Int) < (n : Int) := ⟨Int.emod_nonneg _ (by omega), Int.emod_lt_of_pos _ (by omega)⟩
  refine CallsP_of Tryz.func168 rfl (by rw [Tryz.ntmps168]; simp) ?_
  simp only [Tryz.ntmps168, zM, PT.tv, argEnv, Nat.zero_add, Nat.reduceAdd]
  repeat' (first
 | ((with_reducible show AW _ _ _ _); first
 | (with_reducible first | refine aS (fun K hK => ?_) | refine aT ?_)
 | (first
 | (with_reducible first | refine aP 0 [0,1] ?_ | refine aP 1 [0,1,4] ?_)))
 | (((with_reducible refine And.intro ?_ ?_)); focus (first | (with_reducible assumption) | omega))
 | (with_reducible refine retK_n ?_)
 | ((fail_if_success (with_reducible show AW _ _ _ _)); simp (maxSteps := 2000000) only [go_sem, reduceIte, reduceCtorEq, xA, xL, xD, xE, xM, xS, xB, Tryz.f168, ptI])
 | ((fail_if_success (with_reducible show AW _ _ _ _)); simp (disch := omega) only [seaWrap, seaDiv, seaMod])
 | ((with_reducible refine hK _ ?_); clear hK K))
  all_goals (exact ⟨rfl, rfl⟩)
theorem rlie_p (px py ax ay bx by' : Int) (hp : ptB px py = true) (ha : ptB ax ay = true) (hb : ptB bx by' = true) : CallsP Tryz.prog 217 [.agg [.g (.int .i64 (px)), .g (.int .i64 (py))], .agg [.g (.int .i64 (ax)), .g (.int .i64 (ay))], .agg [.g (.int .i64 (bx)), .g (.int .i64 (by'))]] (.t (.one (.g (.bool (onB px py ax ay bx by'))))) := by
  have q1 := pt_d.1 hp
  have q2 := pt_d.1 ha
  have q3 := pt_d.1 hb
  have hX := crs_bd ha hb hp
  refine CallsP_of Tryz.func217 rfl (by rw [Tryz.ntmps217]; simp) ?_
  simp only [Tryz.ntmps217, zM, PT.tv, argEnv, Nat.zero_add, Nat.reduceAdd]
  repeat' (first
 | ((with_reducible show AW _ _ _ _); first
 | (with_reducible first | refine aS (fun K hK => ?_) | refine aI ?_ | refine aT ?_ | refine aC ?_)
 | (first
 | (with_reducible refine aP 0 [0,1,2] ?_)
 | ((with_reducible refine aR (c := Code.region 1 _ true) [3,4,5] ?_); (with_reducible refine aD ?_ ?_ ?_ ?_); (focus kernel_rfl); (focus kernel_rfl); (focus kernel_rfl))
 | (with_reducible first | refine aP 2 [] ?_ | refine aP 3 [3,4,5] ?_)))
 | ((first | (with_reducible refine And.intro ?_ ?_) | (with_reducible refine Need.mk ?_)); focus (exact True.intro))
 | (with_reducible refine retK_n ?_)
 | ((with_reducible show condN _ _ _ _ _ _); first
 | ((with_reducible refine condN_t ?_ ?_) <;> (intro hc; (try simp only [zB, zC, reduceCtorEq] at hc); (try (exfalso; contradiction)))))
 | ((with_reducible refine And.intro ?_ ?_); focus ((with_reducible show chkR _ _ _ = true); kernel_rfl))
 | ((with_reducible show callDN _ _ _ _ _ _ _ _ _ _ _ _ _); first
 | (refine callDN_q (k := 201) fnok_201 (rminus_p bx by' ax ay (by omega) (by omega)) ?_ ?_)
 | (refine callDN_q (k := 201) fnok_201 (rminus_p px py ax ay (by omega) (by omega)) ?_ ?_)
 | (refine callDN_q (k := 200) fnok_200 (rcross_p (bx - ax) (by' - ay) (px - ax) (py - ay) hX.1 hX.2) ?_ ?_))
 | ((fail_if_success (with_reducible show AW _ _ _ _)); simp (maxSteps := 2000000) only [go_sem, reduceIte, reduceCtorEq, xA, xL, xD, xE, xM, xS, xB, Tryz.f217])
 | ((with_reducible refine hK _ ?_); clear hK K))
  all_goals (first | (refine (decide_eq_false fun g => ?_).symm; exact absurd (trn_0.1 g.1) (by assumption)) | (unfold onB; refine Bool.eq_iff_iff.2 ?_; simp only [Bool.and_eq_true, decide_eq_true_eq, trn_0, crs, ge_iff_le]; omega))
theorem rcrosses_p (ax ay bx by' cx cy dx dy : Int) (qa : ptB ax ay = true) (qb : ptB bx by' = true) (qc : ptB cx cy = true) (qd : ptB dx dy = true) : CallsP Tryz.prog 202 [.agg [.g (.int .i64 (ax)), .g (.int .i64 (ay))], .agg [.g (.int .i64 (bx)), .g (.int .i64 (by'))], .agg [.g (.int .i64 (cx)), .g (.int .i64 (cy))], .agg [.g (.int .i64 (dx)), .g (.int .i64 (dy))]] (.t (.one (.g (.bool (meetB ax ay bx by' cx cy dx dy))))) := by
  have pa := pt_d.1 qa
  have pb := pt_d.1 qb
  have pc := pt_d.1 qc
  have pd := pt_d.1 qd
  have x0 := crs_bd qa qb qc
  have x1 := crs_bd qa qb qd
  have x2 := crs_bd qc qd qa
  have x3 := crs_bd qc qd qb
  have t1 := trn_bd ax ay bx by' cx cy
  have t2 := trn_bd ax ay bx by' dx dy
  have t3 := trn_bd cx cy dx dy ax ay
  have t4 := trn_bd cx cy dx dy bx by'
  have m1 := mul_bd t1 t2
  have m2 := mul_bd t3 t4
  unfold trn crs at m1 m2
  refine CallsP_of Tryz.func202 rfl (by rw [Tryz.ntmps202]; simp) ?_
  simp only [Tryz.ntmps202, zM, PT.tv, argEnv, Nat.zero_add, Nat.reduceAdd]
  repeat' (first
 | ((with_reducible show AW _ _ _ _); first
 | (with_reducible first | refine aS (fun K hK => ?_) | refine aI ?_ | refine aT ?_ | refine aC ?_)
 | (first
 | (with_reducible first | refine aP 0 [0,1,2,3] ?_ | refine aP 1 [4,5,6,7] ?_ | refine aP 2 [] ?_)
 | ((with_reducible refine aR (c := Code.region 3 _ true) [4,5,6,7] ?_); (with_reducible refine aD ?_ ?_ ?_ ?_); (focus kernel_rfl); (focus kernel_rfl); (focus kernel_rfl))
 | ((with_reducible refine aR (c := Code.region 4 _ true) [4,5,6,7,9] ?_); (with_reducible refine aD ?_ ?_ ?_ ?_); (focus kernel_rfl); (focus kernel_rfl); (focus kernel_rfl))
 | (with_reducible refine aP 5 [9,10] ?_)))
 | ((first | (with_reducible refine And.intro ?_ ?_) | (with_reducible refine Need.mk ?_)); focus (first | exact True.intro | (intro _; (with_reducible assumption)) | (simp; done)))
 | (with_reducible refine retK_n ?_)
 | ((with_reducible show condN _ _ _ _ _ _); first
 | ((with_reducible refine condN_t ?_ ?_) <;> (intro hc; (try simp only [zB, zC, reduceCtorEq] at hc); (try (exfalso; contradiction)))))
 | ((with_reducible refine And.intro ?_ ?_); focus ((with_reducible show chkR _ _ _ = true); kernel_rfl))
 | ((with_reducible show callN _ _ _ _ _ _ _ _ _ _); (refine callN_q (k := 217) fnok_217 (rlie_p _ _ _ _ _ _ qa qc qd) ?_ ?_))
 | ((with_reducible show callGN _ _ _ _ _ _ _ _ _ _); first
 | (refine callGN_q (k := 217) fnok_217 (fun hg => rlie_p _ _ _ _ _ _ qb qc qd) ?_ ?_)
 | (refine callGN_q (k := 217) fnok_217 (fun hg => rlie_p _ _ _ _ _ _ qc qa qb) ?_ ?_)
 | (refine callGN_q (k := 217) fnok_217 (fun hg => rlie_p _ _ _ _ _ _ qd qa qb) ?_ ?_))
 | ((with_reducible show callDN _ _ _ _ _ _ _ _ _ _ _ _ _); first
 | (refine callDN_q (k := 201) fnok_201 (rminus_p bx by' ax ay pb pa) ?_ ?_)
 | (refine callDN_q (k := 201) fnok_201 (rminus_p cx cy ax ay pc pa) ?_ ?_)
 | (refine callDN_q (k := 201) fnok_201 (rminus_p dx dy ax ay pd pa) ?_ ?_)
 | (refine callDN_q (k := 201) fnok_201 (rminus_p dx dy cx cy pd pc) ?_ ?_)
 | (refine callDN_q (k := 201) fnok_201 (rminus_p ax ay cx cy pa pc) ?_ ?_)
 | (refine callDN_q (k := 201) fnok_201 (rminus_p bx by' cx cy pb pc) ?_ ?_)
 | (refine callDN_q (k := 200) fnok_200 (rcross_p (bx - ax) (by' - ay) (cx - ax) (cy - ay) x0.1 x0.2) ?_ ?_)
 | (refine callDN_q (k := 200) fnok_200 (rcross_p (bx - ax) (by' - ay) (dx - ax) (dy - ay) x1.1 x1.2) ?_ ?_)
 | (refine callDN_q (k := 200) fnok_200 (rcross_p (dx - cx) (dy - cy) (ax - cx) (ay - cy) x2.1 x2.2) ?_ ?_)
 | (refine callDN_q (k := 200) fnok_200 (rcross_p (dx - cx) (dy - cy) (bx - cx) (by' - cy) x3.1 x3.2) ?_ ?_)
 | (refine callDN_q (k := 199) fnok_199 (rsign_p _) ?_ ?_))
 | ((fail_if_success (with_reducible show AW _ _ _ _)); simp (maxSteps := 2000000) only [go_sem, reduceIte, reduceCtorEq, xA, xL, xD, xE, xM, xS, xB, Tryz.f202])
 | ((fail_if_success (with_reducible show AW _ _ _ _)); simp (disch := omega) only [seaWrap, seaDiv, seaMod])
 | ((with_reducible refine hK _ ?_); clear hK K))
  all_goals (first | (unfold meetB; refine Bool.eq_iff_iff.2 ?_; simp only [Bool.or_eq_true, Bool.and_eq_true, decide_eq_true_eq, true_iff]; exact Or.inr hc) | (obtain ⟨⟨⟨e1, e2⟩, e3⟩, e4⟩ := hc; unfold meetB; rw [e1, e2, e3, e4]; unfold trn crs; refine Bool.eq_iff_iff.2 ?_; simp only [Bool.or_false, Bool.and_eq_true, decide_eq_true_eq]))
end Go.Proofs.YtdhgiklbkmkblaaGreat
