/- Gb: walks on abstract states. -/
import Derived.Test.YtbckibbgajfihaaGreatGa
set_option linter.unusedVariables false
set_option linter.unusedSimpArgs false
namespace Go.Proofs.YtbckibbgajfihaaGreat
open Go.RowKit Go.Sea
theorem ar_53 : arD Tryz.prog 53 = none := by kernel_rfl
theorem fnok_105 : fnOk Tryz.prog 105 = true := by kernel_rfl
theorem fnok_157 : fnOk Tryz.prog 157 = true := by kernel_rfl
theorem fnok_170 : fnOk Tryz.prog 170 = true := by kernel_rfl
theorem fnok_171 : fnOk Tryz.prog 171 = true := by kernel_rfl
theorem fnok_173 : fnOk Tryz.prog 173 = true := by kernel_rfl
theorem fnok_177 : fnOk Tryz.prog 177 = true := by kernel_rfl
theorem fnok_178 : fnOk Tryz.prog 178 = true := by kernel_rfl
theorem fnok_179 : fnOk Tryz.prog 179 = true := by kernel_rfl
theorem le_53 : lenD Tryz.prog 53 = some true := by kernel_rfl
theorem sl_53 : slD Tryz.prog 53 = some (2, 16, 28) := by kernel_rfl

theorem sgn_cmp (z : Int) : (if z < 0 then (-1 : Int) else if 0 < z then 1 else 0) = sgn z := by
  unfold sgn
  split <;> split <;> first | rfl | omega | (split <;> first | rfl | omega)

set_option maxRecDepth 100000 in
set_option maxHeartbeats 4000000 in
theorem turn_p (ax ay bx by' cx cy : Int) (ha : ptB ax ay = true) (hb : ptB bx by' = true) (hc : ptB cx cy = true) : CallsP Tryz.prog 171 [.agg [.g (.int .i64 (ax)), .g (.int .i64 (ay))], .agg [.g (.int .i64 (bx)), .g (.int .i64 (by'))], .agg [.g (.int .i64 (cx)), .g (.int .i64 (cy))]] (.t (.one (.g (.int .i64 (trn ax ay bx by' cx cy))))) := by
  have hA := pt_d.1 ha
  have hB := pt_d.1 hb
  have hC := pt_d.1 hc
  have hX := crs_bd ha hb hc
  refine CallsP_of Tryz.func171 rfl (by rw [Tryz.ntmps171]; simp) ?_
  simp only [Tryz.ntmps171, List.map_cons, List.map_nil, PT.tv, argEnv, Nat.zero_add, Nat.reduceAdd]
  repeat' (first
 | ((with_reducible show AW _ _ _ _); first
 | (with_reducible refine AW_seq_k fun K hK => ?_)
 | (with_reducible refine AW_skip ?_)
 | (with_reducible refine AW_exit ?_)
 | (with_reducible refine AW_ret ?_)
 | (with_reducible refine AW_condI ?_)
 | (with_reducible refine AW_block ?_)
 | ((with_reducible show AW _ (Code.region _ _ _) _ _); first
 | (with_reducible refine AW_regionP 0 [0, 1, 2] ?_)
 | ((with_reducible refine AW_prune (c := Code.region 1 _ true) [3, 4, 5] ?_); (with_reducible refine AW_regionD ?_ ?_ ?_ ?_); (focus kernel_rfl); (focus kernel_rfl); (focus kernel_rfl))))
 | ((first | (with_reducible refine And.intro ?_ ?_) | (with_reducible refine Need.mk ?_)); focus (first | exact True.intro | (with_reducible assumption) | omega | (refine ⟨?_, ?_⟩ <;> omega) | (intro _; first | exact True.intro | (with_reducible assumption) | omega) | (intros; (repeat' (first | exact True.intro | omega | (with_reducible assumption) | (with_reducible refine And.intro ?_ ?_))); done) | (simp (disch := omega) only [Bool.and_eq_true, Bool.or_eq_true, decide_eq_true_eq, bne_iff_ne, ne_eq] at *; first | done | omega | (intros; omega)) | (simp; done) | (simp; omega) | (simp +contextual; done) | (intro h; rw [h]; rfl) | (intro hq; have hq2 := hq; simp only [Bool.and_eq_true, Bool.or_eq_true, Bool.not_eq_true', Bool.not_not, Bool.not_eq_false', decide_eq_true_eq, decide_eq_false_iff_not] at hq2; (repeat' (first | exact hq | (with_reducible refine And.intro ?_ ?_) | omega | (simp_all; done))); done) | (intros; simp_all; done)))
 | (with_reducible refine retK_n ?_)
 | (with_reducible refine retK_n' ?_)
 | (with_reducible refine retH_n rfl rfl rfl ?_)
 | (with_reducible refine retH_n' rfl rfl rfl ?_)
 | ((with_reducible show condN _ _ _ _ _ _); first
 | ((with_reducible refine condN_t ?_ ?_) <;> (intro hc; (try simp only [Bool.and_eq_true, Bool.or_eq_true, Bool.not_eq_true', Bool.and_eq_false_iff, Bool.or_eq_false_iff, decide_eq_true_eq, decide_eq_false_iff_not, bne_iff_ne, beq_iff_eq, reduceCtorEq, bne_eq_false_iff_eq, beq_eq_false_iff_ne, Bool.not_eq_false', Int.not_le, Int.not_lt, Bool.not_not] at hc); (skip); (try (exfalso; first | contradiction | omega)))))
 | ((with_reducible refine And.intro ?_ ?_); focus ((with_reducible show chkR _ _ _ = true); kernel_rfl))
 | ((with_reducible show callDN _ _ _ _ _ _ _ _ _ _ _ _ _); first
 | (refine callDN_q (k := 177) fnok_177 (from_p _ _ _ _ ha hb) ?_ ?_)
 | (refine callDN_q (k := 177) fnok_177 (from_p _ _ _ _ ha hc) ?_ ?_)
 | (refine callDN_q (k := 178) fnok_178 (cross_p (bx - ax) (by' - ay) (cx - ax) (cy - ay) hX.1 hX.2) ?_ ?_)
 | (refine callDN_q (k := 157) fnok_157 (gcmp_p _ _) ?_ ?_))
 | ((fail_if_success (with_reducible show AW _ _ _ _)); simp (maxSteps := 2000000) only [go_sem, reduceIte, reduceCtorEq, Nat.reduceAdd, Nat.reduceLT, Nat.reduceLeDiff, Nat.reduceEqDiff, Nat.reduceMul, Nat.reduceSub, Nat.reduceBEq, Tryz.f171, ty_28, fnok_177, fnok_178, fnok_157])
 | ((with_reducible refine hK _ ?_); clear hK K))
  all_goals (first | exact sgn_cmp _ | skip)

set_option maxRecDepth 100000 in
set_option maxHeartbeats 4000000 in
theorem on_p (px py ax ay bx by' : Int) (hp : ptB px py = true) (ha : ptB ax ay = true) (hb : ptB bx by' = true) : CallsP Tryz.prog 179 [.agg [.g (.int .i64 (px)), .g (.int .i64 (py))], .agg [.g (.int .i64 (ax)), .g (.int .i64 (ay))], .agg [.g (.int .i64 (bx)), .g (.int .i64 (by'))]] (.t (.one (.g (.bool (onB px py ax ay bx by'))))) := by
  refine CallsP_of Tryz.func179 rfl (by rw [Tryz.ntmps179]; simp) ?_
  simp only [Tryz.ntmps179, List.map_cons, List.map_nil, PT.tv, argEnv, Nat.zero_add, Nat.reduceAdd]
  repeat' (first
 | ((with_reducible show AW _ _ _ _); first
 | (with_reducible refine AW_seq_k fun K hK => ?_)
 | (with_reducible refine AW_skip ?_)
 | (with_reducible refine AW_exit ?_)
 | (with_reducible refine AW_ret ?_)
 | (with_reducible refine AW_condI ?_)
 | (with_reducible refine AW_block ?_)
 | ((with_reducible show AW _ (Code.region _ _ _) _ _); first
 | (with_reducible refine AW_regionP 0 [0, 1, 2] ?_)
 | (with_reducible refine AW_regionP 1 [3, 4, 5] ?_)))
 | ((first | (with_reducible refine And.intro ?_ ?_) | (with_reducible refine Need.mk ?_)); focus (first | exact True.intro | (with_reducible assumption) | omega | (refine ⟨?_, ?_⟩ <;> omega) | (intro _; first | exact True.intro | (with_reducible assumption) | omega) | (intros; (repeat' (first | exact True.intro | omega | (with_reducible assumption) | (with_reducible refine And.intro ?_ ?_))); done) | (simp (disch := omega) only [Bool.and_eq_true, Bool.or_eq_true, decide_eq_true_eq, bne_iff_ne, ne_eq] at *; first | done | omega | (intros; omega)) | (simp; done) | (simp; omega) | (simp +contextual; done) | (intro h; rw [h]; rfl) | (intro hq; have hq2 := hq; simp only [Bool.and_eq_true, Bool.or_eq_true, Bool.not_eq_true', Bool.not_not, Bool.not_eq_false', decide_eq_true_eq, decide_eq_false_iff_not] at hq2; (repeat' (first | exact hq | (with_reducible refine And.intro ?_ ?_) | omega | (simp_all; done))); done) | (intros; simp_all; done)))
 | (with_reducible refine retK_n ?_)
 | (with_reducible refine retK_n' ?_)
 | (with_reducible refine retH_n rfl rfl rfl ?_)
 | (with_reducible refine retH_n' rfl rfl rfl ?_)
 | ((with_reducible show condN _ _ _ _ _ _); first
 | ((with_reducible refine condN_t ?_ ?_) <;> (intro hc; (try simp only [Bool.and_eq_true, Bool.or_eq_true, Bool.not_eq_true', Bool.and_eq_false_iff, Bool.or_eq_false_iff, decide_eq_true_eq, decide_eq_false_iff_not, bne_iff_ne, beq_iff_eq, reduceCtorEq, bne_eq_false_iff_eq, beq_eq_false_iff_ne, Bool.not_eq_false', Int.not_le, Int.not_lt, Bool.not_not] at hc); (skip); (try (exfalso; first | contradiction | omega)))))
 | ((with_reducible show callN _ _ _ _ _ _ _ _ _ _); first
 | (refine callN_q (k := 171) fnok_171 (turn_p _ _ _ _ _ _ ha hb hp) ?_ ?_))
 | ((fail_if_success (with_reducible show AW _ _ _ _)); simp (maxSteps := 2000000) only [go_sem, reduceIte, reduceCtorEq, Nat.reduceAdd, Nat.reduceLT, Nat.reduceLeDiff, Nat.reduceEqDiff, Nat.reduceMul, Nat.reduceSub, Nat.reduceBEq, Tryz.f179, ty_28, fnok_171, of_28_0, ty_3, of_28_1])
 | ((with_reducible refine hK _ ?_); clear hK K))
  all_goals (unfold onB; (try refine Bool.eq_iff_iff.2 ?_); simp only [Bool.and_eq_true, decide_eq_true_eq, beq_iff_eq]; first | done | omega)

set_option maxRecDepth 100000 in
set_option maxHeartbeats 4000000 in
theorem meet_p2 (ax ay bx by' cx cy dx dy : Int) (qa : ptB ax ay = true) (qb : ptB bx by' = true) (qc : ptB cx cy = true) (qd : ptB dx dy = true) : CallsP Tryz.prog 173 [.agg [.g (.int .i64 (ax)), .g (.int .i64 (ay))], .agg [.g (.int .i64 (bx)), .g (.int .i64 (by'))], .agg [.g (.int .i64 (cx)), .g (.int .i64 (cy))], .agg [.g (.int .i64 (dx)), .g (.int .i64 (dy))]] (.t (.one (.g (.bool (meetB ax ay bx by' cx cy dx dy))))) := by
  have t1 := trn_bd ax ay bx by' cx cy
  have t2 := trn_bd ax ay bx by' dx dy
  have t3 := trn_bd cx cy dx dy ax ay
  have t4 := trn_bd cx cy dx dy bx by'
  have m1 := mul_bd t1 t2
  have m2 := mul_bd t3 t4
  refine CallsP_of Tryz.func173 rfl (by rw [Tryz.ntmps173]; simp) ?_
  simp only [Tryz.ntmps173, List.map_cons, List.map_nil, PT.tv, argEnv, Nat.zero_add, Nat.reduceAdd]
  repeat' (first
 | ((with_reducible show AW _ _ _ _); first
 | (with_reducible refine AW_seq_k fun K hK => ?_)
 | (with_reducible refine AW_skip ?_)
 | (with_reducible refine AW_exit ?_)
 | (with_reducible refine AW_ret ?_)
 | (with_reducible refine AW_condI ?_)
 | (with_reducible refine AW_block ?_)
 | ((with_reducible show AW _ (Code.region _ _ _) _ _); first
 | (with_reducible refine AW_regionP 0 [0, 1, 2, 3] ?_)
 | ((with_reducible refine AW_prune (c := Code.region 1 _ true) [4, 5, 6, 7] ?_); (with_reducible refine AW_regionD ?_ ?_ ?_ ?_); (focus kernel_rfl); (focus kernel_rfl); (focus kernel_rfl))
 | (with_reducible refine AW_regionP 2 [] ?_)
 | (with_reducible refine AW_regionP 3 [4, 5, 6, 7] ?_)))
 | ((first | (with_reducible refine And.intro ?_ ?_) | (with_reducible refine Need.mk ?_)); focus (first | exact True.intro | (with_reducible assumption) | omega | (refine ⟨?_, ?_⟩ <;> omega) | (intro _; first | exact True.intro | (with_reducible assumption) | omega) | (intros; (repeat' (first | exact True.intro | omega | (with_reducible assumption) | (with_reducible refine And.intro ?_ ?_))); done) | (simp (disch := omega) only [Bool.and_eq_true, Bool.or_eq_true, decide_eq_true_eq, bne_iff_ne, ne_eq] at *; first | done | omega | (intros; omega)) | (simp; done) | (simp; omega) | (simp +contextual; done) | (intro h; rw [h]; rfl) | (intro hq; have hq2 := hq; simp only [Bool.and_eq_true, Bool.or_eq_true, Bool.not_eq_true', Bool.not_not, Bool.not_eq_false', decide_eq_true_eq, decide_eq_false_iff_not] at hq2; (repeat' (first | exact hq | (with_reducible refine And.intro ?_ ?_) | omega | (simp_all; done))); done) | (intros; simp_all; done)))
 | (with_reducible refine retK_n ?_)
 | (with_reducible refine retK_n' ?_)
 | (with_reducible refine retH_n rfl rfl rfl ?_)
 | (with_reducible refine retH_n' rfl rfl rfl ?_)
 | ((with_reducible show condN _ _ _ _ _ _); first
 | ((with_reducible refine condN_t ?_ ?_) <;> (intro hc; (try simp only [Bool.and_eq_true, Bool.or_eq_true, Bool.not_eq_true', Bool.and_eq_false_iff, Bool.or_eq_false_iff, decide_eq_true_eq, decide_eq_false_iff_not, bne_iff_ne, beq_iff_eq, reduceCtorEq, bne_eq_false_iff_eq, beq_eq_false_iff_ne, Bool.not_eq_false', Int.not_le, Int.not_lt, Bool.not_not] at hc); (skip); (try (exfalso; first | contradiction | omega)))))
 | ((with_reducible refine And.intro ?_ ?_); focus ((with_reducible show chkR _ _ _ = true); kernel_rfl))
 | ((with_reducible show callDN _ _ _ _ _ _ _ _ _ _ _ _ _); first
 | (refine callDN_q (k := 171) fnok_171 (turn_p _ _ _ _ _ _ qa qb qc) ?_ ?_)
 | (refine callDN_q (k := 171) fnok_171 (turn_p _ _ _ _ _ _ qa qb qd) ?_ ?_)
 | (refine callDN_q (k := 171) fnok_171 (turn_p _ _ _ _ _ _ qc qd qa) ?_ ?_)
 | (refine callDN_q (k := 171) fnok_171 (turn_p _ _ _ _ _ _ qc qd qb) ?_ ?_))
 | ((with_reducible show callDGN _ _ _ _ _ _ _ _ _ _ _ _ _); first
 | (refine callDGN_q (k := 171) fnok_171 (fun hg => turn_p _ _ _ _ _ _ qa qb qc) ?_ ?_)
 | (refine callDGN_q (k := 171) fnok_171 (fun hg => turn_p _ _ _ _ _ _ qa qb qd) ?_ ?_)
 | (refine callDGN_q (k := 171) fnok_171 (fun hg => turn_p _ _ _ _ _ _ qc qd qa) ?_ ?_)
 | (refine callDGN_q (k := 171) fnok_171 (fun hg => turn_p _ _ _ _ _ _ qc qd qb) ?_ ?_))
 | ((with_reducible show callN _ _ _ _ _ _ _ _ _ _); first
 | (refine callN_q (k := 179) fnok_179 (on_p _ _ _ _ _ _ qa qc qd) ?_ ?_)
 | (refine callN_q (k := 179) fnok_179 (on_p _ _ _ _ _ _ qb qc qd) ?_ ?_)
 | (refine callN_q (k := 179) fnok_179 (on_p _ _ _ _ _ _ qc qa qb) ?_ ?_)
 | (refine callN_q (k := 179) fnok_179 (on_p _ _ _ _ _ _ qd qa qb) ?_ ?_))
 | ((with_reducible show callGN _ _ _ _ _ _ _ _ _ _); first
 | (refine callGN_q (k := 179) fnok_179 (fun hg => on_p _ _ _ _ _ _ qa qc qd) ?_ ?_)
 | (refine callGN_q (k := 179) fnok_179 (fun hg => on_p _ _ _ _ _ _ qb qc qd) ?_ ?_)
 | (refine callGN_q (k := 179) fnok_179 (fun hg => on_p _ _ _ _ _ _ qc qa qb) ?_ ?_)
 | (refine callGN_q (k := 179) fnok_179 (fun hg => on_p _ _ _ _ _ _ qd qa qb) ?_ ?_))
 | ((fail_if_success (with_reducible show AW _ _ _ _)); simp (maxSteps := 2000000) only [go_sem, reduceIte, reduceCtorEq, Nat.reduceAdd, Nat.reduceLT, Nat.reduceLeDiff, Nat.reduceEqDiff, Nat.reduceMul, Nat.reduceSub, Nat.reduceBEq, Tryz.f173, ty_28, fnok_171, fnok_179])
 | ((fail_if_success (with_reducible show AW _ _ _ _)); simp (disch := omega) only [seaWrap, seaDiv, seaMod])
 | ((with_reducible refine hK _ ?_); clear hK K))
  all_goals (unfold meetB; first | (rw [decide_eq_true (by assumption)]; rfl) | (rw [decide_eq_false (by omega)]; simp [Bool.or_assoc]) | skip)

def ptI (P : Nat → Nat → Int) (i o : Nat) : IV := .g (.int .i64 (P i o))
def allPt (P : Nat → Nat → Int) (k : Nat) : Prop := ∀ i, i < k → ptB (P i 0) (P i 1) = true
instance (P : Nat → Nat → Int) (k : Nat) : Decidable (allPt P k) := by unfold allPt; infer_instance

set_option maxRecDepth 100000 in
set_option maxHeartbeats 4000000 in
theorem valid_p2 (k : Nat) (P : Nat → Nat → Int) (hk : k ≤ 9223372036854775807) : CallsP Tryz.prog 170 [.one (.lst 2 k (ptI P))] (.t (.one (.g (.bool (decide (allPt P k)))))) := by
  refine CallsP_of Tryz.func170 rfl (by rw [Tryz.ntmps170]; simp) ?_
  simp only [Tryz.ntmps170, List.map_cons, List.map_nil, PT.tv, argEnv, Nat.zero_add, Nat.reduceAdd]
  repeat' (first
 | ((with_reducible show AW _ _ _ _); first
 | (with_reducible refine AW_seq_k fun K hK => ?_)
 | (with_reducible refine AW_skip ?_)
 | (with_reducible refine AW_exit ?_)
 | (with_reducible refine AW_ret ?_)
 | (with_reducible refine AW_condI ?_)
 | (with_reducible refine AW_block ?_)
 | ((with_reducible show AW _ (Code.region _ _ _) _ _); first
 | (with_reducible refine AW_regionP 0 [0] ?_)
 | (with_reducible refine AW_regionP 1 [0] ?_)
 | (with_reducible refine AW_regionP 2 [5, 6, 7] ?_)
 | (with_reducible refine AW_regionP 3 [5, 6, 7] ?_)
 | (with_reducible refine AW_regionP 4 [4, 5, 6, 7] ?_)
 | (with_reducible refine AW_regionP 5 [] ?_)
 | (with_reducible refine AW_regionP 6 [5, 6, 7] ?_)
 | (with_reducible refine AW_regionP 7 [] ?_))
 | ((with_reducible show AW _ (Code.loop _) _ _); first
 | ((with_reducible refine AW_loopQ (c := (Code.seq (Code.region 2 _ _) _)) (ι := Nat) [5, 6] (fun i => [(7, iA .i64 (i : Int))]) (fun i => []) (fun i => i ≤ k ∧ allPt P i) (fun i => k - i) 0 ?lg2 ?l12 ?l22 ?li2 ?lr2); (case' lg2 => rintro i _); (case' li2 => try (exact ⟨Nat.zero_le _, fun i hi => absurd hi (Nat.not_lt_zero _)⟩)); (case' lr2 => rintro i ⟨hi, hai⟩ KR hR2; skip; simp only [keepE, hupd, hset, lk, if_true, if_false, Nat.reduceEqDiff, reduceIte, List.cons_append, List.nil_append, ptI]))))
 | ((first | (with_reducible refine And.intro ?_ ?_) | (with_reducible refine Need.mk ?_)); focus (first | exact True.intro | (with_reducible assumption) | omega | (refine ⟨?_, ?_⟩ <;> omega) | (intro _; first | exact True.intro | (with_reducible assumption) | omega) | (intros; (repeat' (first | exact True.intro | omega | (with_reducible assumption) | (with_reducible refine And.intro ?_ ?_))); done) | (simp (disch := omega) only [Bool.and_eq_true, Bool.or_eq_true, decide_eq_true_eq, bne_iff_ne, ne_eq] at *; first | done | omega | (intros; omega)) | (simp; done) | (simp; omega) | (simp +contextual; done) | (intro h; rw [h]; rfl) | (intro hq; have hq2 := hq; simp only [Bool.and_eq_true, Bool.or_eq_true, Bool.not_eq_true', Bool.not_not, Bool.not_eq_false', decide_eq_true_eq, decide_eq_false_iff_not] at hq2; (repeat' (first | exact hq | (with_reducible refine And.intro ?_ ?_) | omega | (simp_all; done))); done) | (intros; simp_all; done)))
 | (with_reducible refine retK_n ?_)
 | (with_reducible refine retK_n' ?_)
 | (with_reducible refine retH_n rfl rfl rfl ?_)
 | (with_reducible refine retH_n' rfl rfl rfl ?_)
 | ((with_reducible show condN _ _ _ _ _ _); first
 | ((with_reducible refine condN_t ?_ ?_) <;> (intro hc; (try simp only [Bool.and_eq_true, Bool.or_eq_true, Bool.not_eq_true', Bool.and_eq_false_iff, Bool.or_eq_false_iff, decide_eq_true_eq, decide_eq_false_iff_not, bne_iff_ne, beq_iff_eq, reduceCtorEq, bne_eq_false_iff_eq, beq_eq_false_iff_ne, Bool.not_eq_false', Int.not_le, Int.not_lt, Bool.not_not] at hc); (skip); (try (exfalso; first | contradiction | omega)))))
 | ((with_reducible show callN _ _ _ _ _ _ _ _ _ _); first
 | (refine callN_q (k := 105) fnok_105 (ptV_p _ _) ?_ ?_))
 | ((with_reducible refine hR2 _ (i + 1) ?_); (try clear hR2 KR))
 | ((with_reducible refine Told.mk ?_); simp only [go_sem, reduceIte, reduceCtorEq, Nat.reduceAdd, Nat.reduceLT, Nat.reduceLeDiff, Nat.reduceEqDiff, Nat.reduceMul, Nat.reduceSub, Nat.reduceBEq, ptI] <;> (first | exact True.intro | (((try simp (disch := omega) only [seaWrap, Int.natCast_add, Int.cast_ofNat_Int, and_true, true_and, and_self]); (repeat' (first | exact True.intro | omega | rfl | (with_reducible assumption) | (with_reducible refine And.intro ?_ ?_) | (exact all_succ (by assumption) (by assumption)) )); done)) | (refine Stuck.out ?_)))
 | ((fail_if_success (with_reducible show AW _ _ _ _)); simp (maxSteps := 2000000) only [go_sem, reduceIte, reduceCtorEq, Nat.reduceAdd, Nat.reduceLT, Nat.reduceLeDiff, Nat.reduceEqDiff, Nat.reduceMul, Nat.reduceSub, Nat.reduceBEq, Tryz.f170, le_53, sl_53, ar_53, ty_28, zc_28, fnok_105, ptI])
 | ((fail_if_success (with_reducible show AW _ _ _ _)); simp (disch := omega) only [seaWrap, seaDiv, seaMod])
 | ((with_reducible refine hK _ ?_); clear hK K)
 | (with_reducible apply_assumption -exfalso only [*]))
  all_goals (first | exact (decide_eq_false fun h => by have := h i (by omega); simp_all).symm | exact (decide_eq_true fun j hj => hai j (by omega)).symm | skip)

def f3 (a b c d e f : Int) (i o : Nat) : Int := if i = 0 then (if o = 0 then a else b) else if i = 1 then (if o = 0 then c else d) else (if o = 0 then e else f)
def f4 (a b c d e f g h : Int) (i o : Nat) : Int := if i = 0 then (if o = 0 then a else b) else if i = 1 then (if o = 0 then c else d) else if i = 2 then (if o = 0 then e else f) else (if o = 0 then g else h)
theorem all3 (a b c d e f : Int) : decide (allPt (f3 a b c d e f) 3) = (ptB a b && ptB c d && ptB e f) := by
  refine Bool.eq_iff_iff.2 ?_
  simp only [Bool.and_eq_true, decide_eq_true_eq]
  constructor
  · intro h; exact ⟨⟨h 0 (by omega), h 1 (by omega)⟩, h 2 (by omega)⟩
  · rintro ⟨⟨h0, h1⟩, h2⟩ i hi
    rcases i with _ | _ | _ | i <;> first | exact h0 | exact h1 | exact h2 | omega
theorem all4 (a b c d e f g h : Int) : decide (allPt (f4 a b c d e f g h) 4) = (ptB a b && ptB c d && ptB e f && ptB g h) := by
  refine Bool.eq_iff_iff.2 ?_
  simp only [Bool.and_eq_true, decide_eq_true_eq]
  constructor
  · intro h; exact ⟨⟨⟨h 0 (by omega), h 1 (by omega)⟩, h 2 (by omega)⟩, h 3 (by omega)⟩
  · rintro ⟨⟨⟨h0, h1⟩, h2⟩, h3⟩ i hi
    rcases i with _ | _ | _ | _ | i <;> first | exact h0 | exact h1 | exact h2 | exact h3 | omega
theorem v3_p (a b c d e f : Int) {F : Nat → Nat → IV} (hF : ∀ i o, i < 3 → o < 2 → (F i o).eqv (ptI (f3 a b c d e f) i o)) : CallsP Tryz.prog 170 [.one (.lst 2 3 F)] (.t (.one (.g (.bool (ptB a b && ptB c d && ptB e f))))) := by
  have h := valid_p2 3 (f3 a b c d e f) (by omega)
  rw [all3] at h
  exact h.eqv ⟨⟨rfl, rfl, hF⟩, trivial⟩ (PV.eqv_refl _)
theorem v4_p (a b c d e f g k : Int) {F : Nat → Nat → IV} (hF : ∀ i o, i < 4 → o < 2 → (F i o).eqv (ptI (f4 a b c d e f g k) i o)) : CallsP Tryz.prog 170 [.one (.lst 2 4 F)] (.t (.one (.g (.bool (ptB a b && ptB c d && ptB e f && ptB g k))))) := by
  have h := valid_p2 4 (f4 a b c d e f g k) (by omega)
  rw [all4] at h
  exact h.eqv ⟨⟨rfl, rfl, hF⟩, trivial⟩ (PV.eqv_refl _)
def tvV (ax ay bx by' cx cy : Int) : Int := if (ptB ax ay && ptB bx by' && ptB cx cy) = true then trn ax ay bx by' cx cy else 0
def tvE (ax ay bx by' cx cy : Int) : Int := if (ptB ax ay && ptB bx by' && ptB cx cy) = true then 0 else 1

set_option maxRecDepth 100000 in
set_option maxHeartbeats 4000000 in
theorem Turn_ok (ax ay bx by' cx cy : Int) (hv : (ptB ax ay && ptB bx by' && ptB cx cy) = true) : CallsP Tryz.prog 158 [.agg [.g (.int .i64 (ax)), .g (.int .i64 (ay))], .agg [.g (.int .i64 (bx)), .g (.int .i64 (by'))], .agg [.g (.int .i64 (cx)), .g (.int .i64 (cy))]] (.tup [.one (.g (.int .i64 (trn ax ay bx by' cx cy))), .one (.g (.int .i64 (0)))]) := by
  have q1 : ptB ax ay = true := by simp only [Bool.and_eq_true] at hv; exact hv.1.1
  have q2 : ptB bx by' = true := by simp only [Bool.and_eq_true] at hv; exact hv.1.2
  have q3 : ptB cx cy = true := by simp only [Bool.and_eq_true] at hv; exact hv.2
  refine CallsP_of Tryz.func158 rfl (by rw [Tryz.ntmps158]; simp) ?_
  simp only [Tryz.ntmps158, List.map_cons, List.map_nil, PT.tv, argEnv, Nat.zero_add, Nat.reduceAdd]
  repeat' (first
 | ((with_reducible show callN _ _ _ _ _ _ _ _ _ _); first
 | ((refine callN_q (k := 170) fnok_170 (v3_p ax ay bx by' cx cy ?_) ?_ ?_); (focus (intro i o hi ho; rcases i with _ | _ | _ | _ | i <;> first | omega | (rcases o with _ | _ | o <;> first | omega | exact IV.eqv_refl _ | rfl))))
 | (refine callN_q (k := 171) fnok_171 (turn_p _ _ _ _ _ _ q1 q2 q3) ?_ ?_))
 | ((with_reducible show AW _ _ _ _); first
 | (with_reducible refine AW_seq_k fun K hK => ?_)
 | (with_reducible refine AW_skip ?_)
 | (with_reducible refine AW_exit ?_)
 | (with_reducible refine AW_ret ?_)
 | (with_reducible refine AW_condI ?_)
 | (with_reducible refine AW_block ?_)
 | ((with_reducible show AW _ (Code.region _ _ _) _ _); first
 | (with_reducible refine AW_regionP 0 [0, 1, 2] ?_)
 | (with_reducible refine AW_regionP 1 [3, 4, 5] ?_)
 | (with_reducible refine AW_regionP 2 [] ?_)
 | (with_reducible refine AW_regionP 3 [3, 4, 5] ?_)))
 | ((first | (with_reducible refine And.intro ?_ ?_) | (with_reducible refine Need.mk ?_)); focus (first | exact True.intro | (with_reducible assumption) | omega | (refine ⟨?_, ?_⟩ <;> omega) | (intro _; first | exact True.intro | (with_reducible assumption) | omega) | (intros; (repeat' (first | exact True.intro | omega | (with_reducible assumption) | (with_reducible refine And.intro ?_ ?_))); done) | (simp (disch := omega) only [Bool.and_eq_true, Bool.or_eq_true, decide_eq_true_eq, bne_iff_ne, ne_eq] at *; first | done | omega | (intros; omega)) | (simp; done) | (simp; omega) | (simp +contextual; done) | (intro h; rw [h]; rfl) | (intro hq; have hq2 := hq; simp only [Bool.and_eq_true, Bool.or_eq_true, Bool.not_eq_true', Bool.not_not, Bool.not_eq_false', decide_eq_true_eq, decide_eq_false_iff_not] at hq2; (repeat' (first | exact hq | (with_reducible refine And.intro ?_ ?_) | omega | (simp_all; done))); done) | (intros; simp_all; done)))
 | (with_reducible refine retK_n ?_)
 | (with_reducible refine retK_n' ?_)
 | (with_reducible refine retH_n rfl rfl rfl ?_)
 | (with_reducible refine retH_n' rfl rfl rfl ?_)
 | ((with_reducible show condN _ _ _ _ _ _); first
 | ((with_reducible refine condN_t ?_ ?_) <;> (intro hc; (try simp only [Bool.and_eq_true, Bool.or_eq_true, Bool.not_eq_true', Bool.and_eq_false_iff, Bool.or_eq_false_iff, decide_eq_true_eq, decide_eq_false_iff_not, bne_iff_ne, beq_iff_eq, reduceCtorEq, bne_eq_false_iff_eq, beq_eq_false_iff_ne, Bool.not_eq_false', Int.not_le, Int.not_lt, Bool.not_not] at hc); (skip); (try (exfalso; first | contradiction | omega)))))
 | ((fail_if_success (with_reducible show AW _ _ _ _)); simp (maxSteps := 2000000) only [go_sem, reduceIte, reduceCtorEq, Nat.reduceAdd, Nat.reduceLT, Nat.reduceLeDiff, Nat.reduceEqDiff, Nat.reduceMul, Nat.reduceSub, Nat.reduceBEq, Tryz.f158, ty_28, sl_53, zc_28, fnok_170, fnok_171, hv, Bool.not_true])
 | ((with_reducible refine hK _ ?_); clear hK K))

set_option maxRecDepth 100000 in
set_option maxHeartbeats 4000000 in
theorem Turn_no (ax ay bx by' cx cy : Int) (hv : (ptB ax ay && ptB bx by' && ptB cx cy) = false) : CallsP Tryz.prog 158 [.agg [.g (.int .i64 (ax)), .g (.int .i64 (ay))], .agg [.g (.int .i64 (bx)), .g (.int .i64 (by'))], .agg [.g (.int .i64 (cx)), .g (.int .i64 (cy))]] (.tup [.one (.g (.int .i64 (0))), .one (.g (.int .i64 (1)))]) := by
  refine CallsP_of Tryz.func158 rfl (by rw [Tryz.ntmps158]; simp) ?_
  simp only [Tryz.ntmps158, List.map_cons, List.map_nil, PT.tv, argEnv, Nat.zero_add, Nat.reduceAdd]
  repeat' (first
 | ((with_reducible show callN _ _ _ _ _ _ _ _ _ _); first
 | ((refine callN_q (k := 170) fnok_170 (v3_p ax ay bx by' cx cy ?_) ?_ ?_); (focus (intro i o hi ho; rcases i with _ | _ | _ | _ | i <;> first | omega | (rcases o with _ | _ | o <;> first | omega | exact IV.eqv_refl _ | rfl)))))
 | ((with_reducible show AW _ _ _ _); first
 | (with_reducible refine AW_seq_k fun K hK => ?_)
 | (with_reducible refine AW_skip ?_)
 | (with_reducible refine AW_exit ?_)
 | (with_reducible refine AW_ret ?_)
 | (with_reducible refine AW_condI ?_)
 | (with_reducible refine AW_block ?_)
 | ((with_reducible show AW _ (Code.region _ _ _) _ _); first
 | (with_reducible refine AW_regionP 0 [0, 1, 2] ?_)
 | (with_reducible refine AW_regionP 1 [3, 4, 5] ?_)
 | (with_reducible refine AW_regionP 2 [] ?_)
 | (with_reducible refine AW_regionP 3 [3, 4, 5] ?_)))
 | ((first | (with_reducible refine And.intro ?_ ?_) | (with_reducible refine Need.mk ?_)); focus (first | exact True.intro | (with_reducible assumption) | omega | (refine ⟨?_, ?_⟩ <;> omega) | (intro _; first | exact True.intro | (with_reducible assumption) | omega) | (intros; (repeat' (first | exact True.intro | omega | (with_reducible assumption) | (with_reducible refine And.intro ?_ ?_))); done) | (simp (disch := omega) only [Bool.and_eq_true, Bool.or_eq_true, decide_eq_true_eq, bne_iff_ne, ne_eq] at *; first | done | omega | (intros; omega)) | (simp; done) | (simp; omega) | (simp +contextual; done) | (intro h; rw [h]; rfl) | (intro hq; have hq2 := hq; simp only [Bool.and_eq_true, Bool.or_eq_true, Bool.not_eq_true', Bool.not_not, Bool.not_eq_false', decide_eq_true_eq, decide_eq_false_iff_not] at hq2; (repeat' (first | exact hq | (with_reducible refine And.intro ?_ ?_) | omega | (simp_all; done))); done) | (intros; simp_all; done)))
 | (with_reducible refine retK_n ?_)
 | (with_reducible refine retK_n' ?_)
 | (with_reducible refine retH_n rfl rfl rfl ?_)
 | (with_reducible refine retH_n' rfl rfl rfl ?_)
 | ((with_reducible show condN _ _ _ _ _ _); first
 | ((with_reducible refine condN_t ?_ ?_) <;> (intro hc; (try simp only [Bool.and_eq_true, Bool.or_eq_true, Bool.not_eq_true', Bool.and_eq_false_iff, Bool.or_eq_false_iff, decide_eq_true_eq, decide_eq_false_iff_not, bne_iff_ne, beq_iff_eq, reduceCtorEq, bne_eq_false_iff_eq, beq_eq_false_iff_ne, Bool.not_eq_false', Int.not_le, Int.not_lt, Bool.not_not] at hc); (skip); (try (exfalso; first | contradiction | omega)))))
 | ((fail_if_success (with_reducible show AW _ _ _ _)); simp (maxSteps := 2000000) only [go_sem, reduceIte, reduceCtorEq, Nat.reduceAdd, Nat.reduceLT, Nat.reduceLeDiff, Nat.reduceEqDiff, Nat.reduceMul, Nat.reduceSub, Nat.reduceBEq, Tryz.f158, ty_28, sl_53, zc_28, fnok_170, fnok_171, hv, Bool.not_false])
 | ((with_reducible refine hK _ ?_); clear hK K))

theorem Turn_p (ax ay bx by' cx cy : Int) : CallsP Tryz.prog 158 [.agg [.g (.int .i64 (ax)), .g (.int .i64 (ay))], .agg [.g (.int .i64 (bx)), .g (.int .i64 (by'))], .agg [.g (.int .i64 (cx)), .g (.int .i64 (cy))]] (.tup [.one (.g (.int .i64 (tvV ax ay bx by' cx cy))), .one (.g (.int .i64 (tvE ax ay bx by' cx cy)))]) := by
  unfold tvV tvE
  cases hv : (ptB ax ay && ptB bx by' && ptB cx cy) with
  | true => exact Turn_ok ax ay bx by' cx cy hv
  | false => exact Turn_no ax ay bx by' cx cy hv
def mvB (ax ay bx by' cx cy dx dy : Int) : Bool := if (ptB ax ay && ptB bx by' && ptB cx cy && ptB dx dy) = true then meetB ax ay bx by' cx cy dx dy else false
def mvE (ax ay bx by' cx cy dx dy : Int) : Int := if (ptB ax ay && ptB bx by' && ptB cx cy && ptB dx dy) = true then 0 else 1

set_option maxRecDepth 100000 in
set_option maxHeartbeats 4000000 in
theorem Meet_ok (ax ay bx by' cx cy dx dy : Int) (hv : (ptB ax ay && ptB bx by' && ptB cx cy && ptB dx dy) = true) : CallsP Tryz.prog 160 [.agg [.g (.int .i64 (ax)), .g (.int .i64 (ay))], .agg [.g (.int .i64 (bx)), .g (.int .i64 (by'))], .agg [.g (.int .i64 (cx)), .g (.int .i64 (cy))], .agg [.g (.int .i64 (dx)), .g (.int .i64 (dy))]] (.tup [.one (.g (.bool (meetB ax ay bx by' cx cy dx dy))), .one (.g (.int .i64 (0)))]) := by
  simp only [Bool.and_eq_true] at hv
  obtain ⟨⟨⟨q1, q2⟩, q3⟩, q4⟩ := hv
  have hv : (ptB ax ay && ptB bx by' && ptB cx cy && ptB dx dy) = true := by rw [q1, q2, q3, q4]; rfl
  refine CallsP_of Tryz.func160 rfl (by rw [Tryz.ntmps160]; simp) ?_
  simp only [Tryz.ntmps160, List.map_cons, List.map_nil, PT.tv, argEnv, Nat.zero_add, Nat.reduceAdd]
  repeat' (first
 | ((with_reducible show callN _ _ _ _ _ _ _ _ _ _); first
 | ((refine callN_q (k := 170) fnok_170 (v4_p ax ay bx by' cx cy dx dy ?_) ?_ ?_); (focus (intro i o hi ho; rcases i with _ | _ | _ | _ | i <;> first | omega | (rcases o with _ | _ | o <;> first | omega | exact IV.eqv_refl _ | rfl))))
 | (refine callN_q (k := 173) fnok_173 (meet_p2 _ _ _ _ _ _ _ _ q1 q2 q3 q4) ?_ ?_))
 | ((with_reducible show AW _ _ _ _); first
 | (with_reducible refine AW_seq_k fun K hK => ?_)
 | (with_reducible refine AW_skip ?_)
 | (with_reducible refine AW_exit ?_)
 | (with_reducible refine AW_ret ?_)
 | (with_reducible refine AW_condI ?_)
 | (with_reducible refine AW_block ?_)
 | ((with_reducible show AW _ (Code.region _ _ _) _ _); first
 | (with_reducible refine AW_regionP 0 [0, 1, 2, 3] ?_)
 | (with_reducible refine AW_regionP 1 [4, 5, 6, 7] ?_)
 | (with_reducible refine AW_regionP 2 [] ?_)
 | (with_reducible refine AW_regionP 3 [4, 5, 6, 7] ?_)))
 | ((first | (with_reducible refine And.intro ?_ ?_) | (with_reducible refine Need.mk ?_)); focus (first | exact True.intro | (with_reducible assumption) | omega | (refine ⟨?_, ?_⟩ <;> omega) | (intro _; first | exact True.intro | (with_reducible assumption) | omega) | (intros; (repeat' (first | exact True.intro | omega | (with_reducible assumption) | (with_reducible refine And.intro ?_ ?_))); done) | (simp (disch := omega) only [Bool.and_eq_true, Bool.or_eq_true, decide_eq_true_eq, bne_iff_ne, ne_eq] at *; first | done | omega | (intros; omega)) | (simp; done) | (simp; omega) | (simp +contextual; done) | (intro h; rw [h]; rfl) | (intro hq; have hq2 := hq; simp only [Bool.and_eq_true, Bool.or_eq_true, Bool.not_eq_true', Bool.not_not, Bool.not_eq_false', decide_eq_true_eq, decide_eq_false_iff_not] at hq2; (repeat' (first | exact hq | (with_reducible refine And.intro ?_ ?_) | omega | (simp_all; done))); done) | (intros; simp_all; done)))
 | (with_reducible refine retK_n ?_)
 | (with_reducible refine retK_n' ?_)
 | (with_reducible refine retH_n rfl rfl rfl ?_)
 | (with_reducible refine retH_n' rfl rfl rfl ?_)
 | ((with_reducible show condN _ _ _ _ _ _); first
 | ((with_reducible refine condN_t ?_ ?_) <;> (intro hc; (try simp only [Bool.and_eq_true, Bool.or_eq_true, Bool.not_eq_true', Bool.and_eq_false_iff, Bool.or_eq_false_iff, decide_eq_true_eq, decide_eq_false_iff_not, bne_iff_ne, beq_iff_eq, reduceCtorEq, bne_eq_false_iff_eq, beq_eq_false_iff_ne, Bool.not_eq_false', Int.not_le, Int.not_lt, Bool.not_not] at hc); (skip); (try (exfalso; first | contradiction | omega)))))
 | ((fail_if_success (with_reducible show AW _ _ _ _)); simp (maxSteps := 2000000) only [go_sem, reduceIte, reduceCtorEq, Nat.reduceAdd, Nat.reduceLT, Nat.reduceLeDiff, Nat.reduceEqDiff, Nat.reduceMul, Nat.reduceSub, Nat.reduceBEq, Tryz.f160, ty_28, sl_53, zc_28, fnok_170, fnok_173, hv, Bool.not_true])
 | ((with_reducible refine hK _ ?_); clear hK K))

set_option maxRecDepth 100000 in
set_option maxHeartbeats 4000000 in
theorem Meet_no (ax ay bx by' cx cy dx dy : Int) (hv : (ptB ax ay && ptB bx by' && ptB cx cy && ptB dx dy) = false) : CallsP Tryz.prog 160 [.agg [.g (.int .i64 (ax)), .g (.int .i64 (ay))], .agg [.g (.int .i64 (bx)), .g (.int .i64 (by'))], .agg [.g (.int .i64 (cx)), .g (.int .i64 (cy))], .agg [.g (.int .i64 (dx)), .g (.int .i64 (dy))]] (.tup [.one (.g (.bool false)), .one (.g (.int .i64 (1)))]) := by
  refine CallsP_of Tryz.func160 rfl (by rw [Tryz.ntmps160]; simp) ?_
  simp only [Tryz.ntmps160, List.map_cons, List.map_nil, PT.tv, argEnv, Nat.zero_add, Nat.reduceAdd]
  repeat' (first
 | ((with_reducible show callN _ _ _ _ _ _ _ _ _ _); first
 | ((refine callN_q (k := 170) fnok_170 (v4_p ax ay bx by' cx cy dx dy ?_) ?_ ?_); (focus (intro i o hi ho; rcases i with _ | _ | _ | _ | i <;> first | omega | (rcases o with _ | _ | o <;> first | omega | exact IV.eqv_refl _ | rfl)))))
 | ((with_reducible show AW _ _ _ _); first
 | (with_reducible refine AW_seq_k fun K hK => ?_)
 | (with_reducible refine AW_skip ?_)
 | (with_reducible refine AW_exit ?_)
 | (with_reducible refine AW_ret ?_)
 | (with_reducible refine AW_condI ?_)
 | (with_reducible refine AW_block ?_)
 | ((with_reducible show AW _ (Code.region _ _ _) _ _); first
 | (with_reducible refine AW_regionP 0 [0, 1, 2, 3] ?_)
 | (with_reducible refine AW_regionP 1 [4, 5, 6, 7] ?_)
 | (with_reducible refine AW_regionP 2 [] ?_)
 | (with_reducible refine AW_regionP 3 [4, 5, 6, 7] ?_)))
 | ((first | (with_reducible refine And.intro ?_ ?_) | (with_reducible refine Need.mk ?_)); focus (first | exact True.intro | (with_reducible assumption) | omega | (refine ⟨?_, ?_⟩ <;> omega) | (intro _; first | exact True.intro | (with_reducible assumption) | omega) | (intros; (repeat' (first | exact True.intro | omega | (with_reducible assumption) | (with_reducible refine And.intro ?_ ?_))); done) | (simp (disch := omega) only [Bool.and_eq_true, Bool.or_eq_true, decide_eq_true_eq, bne_iff_ne, ne_eq] at *; first | done | omega | (intros; omega)) | (simp; done) | (simp; omega) | (simp +contextual; done) | (intro h; rw [h]; rfl) | (intro hq; have hq2 := hq; simp only [Bool.and_eq_true, Bool.or_eq_true, Bool.not_eq_true', Bool.not_not, Bool.not_eq_false', decide_eq_true_eq, decide_eq_false_iff_not] at hq2; (repeat' (first | exact hq | (with_reducible refine And.intro ?_ ?_) | omega | (simp_all; done))); done) | (intros; simp_all; done)))
 | (with_reducible refine retK_n ?_)
 | (with_reducible refine retK_n' ?_)
 | (with_reducible refine retH_n rfl rfl rfl ?_)
 | (with_reducible refine retH_n' rfl rfl rfl ?_)
 | ((with_reducible show condN _ _ _ _ _ _); first
 | ((with_reducible refine condN_t ?_ ?_) <;> (intro hc; (try simp only [Bool.and_eq_true, Bool.or_eq_true, Bool.not_eq_true', Bool.and_eq_false_iff, Bool.or_eq_false_iff, decide_eq_true_eq, decide_eq_false_iff_not, bne_iff_ne, beq_iff_eq, reduceCtorEq, bne_eq_false_iff_eq, beq_eq_false_iff_ne, Bool.not_eq_false', Int.not_le, Int.not_lt, Bool.not_not] at hc); (skip); (try (exfalso; first | contradiction | omega)))))
 | ((fail_if_success (with_reducible show AW _ _ _ _)); simp (maxSteps := 2000000) only [go_sem, reduceIte, reduceCtorEq, Nat.reduceAdd, Nat.reduceLT, Nat.reduceLeDiff, Nat.reduceEqDiff, Nat.reduceMul, Nat.reduceSub, Nat.reduceBEq, Tryz.f160, ty_28, sl_53, zc_28, fnok_170, fnok_173, hv, Bool.not_false])
 | ((with_reducible refine hK _ ?_); clear hK K))

theorem Meet_p (ax ay bx by' cx cy dx dy : Int) : CallsP Tryz.prog 160 [.agg [.g (.int .i64 (ax)), .g (.int .i64 (ay))], .agg [.g (.int .i64 (bx)), .g (.int .i64 (by'))], .agg [.g (.int .i64 (cx)), .g (.int .i64 (cy))], .agg [.g (.int .i64 (dx)), .g (.int .i64 (dy))]] (.tup [.one (.g (.bool (mvB ax ay bx by' cx cy dx dy))), .one (.g (.int .i64 (mvE ax ay bx by' cx cy dx dy)))]) := by
  unfold mvB mvE
  cases hv : (ptB ax ay && ptB bx by' && ptB cx cy && ptB dx dy) with
  | true => exact Meet_ok ax ay bx by' cx cy dx dy hv
  | false => exact Meet_no ax ay bx by' cx cy dx dy hv

end Go.Proofs.YtbckibbgajfihaaGreat
