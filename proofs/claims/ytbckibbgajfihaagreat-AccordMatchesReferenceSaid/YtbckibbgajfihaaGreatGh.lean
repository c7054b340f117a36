/- Gh: walks on abstract states. -/
import Derived.Test.YtbckibbgajfihaaGreatGg
set_option linter.unusedVariables false
set_option linter.unusedSimpArgs false
namespace Go.Proofs.YtbckibbgajfihaaGreat
open Go.RowKit Go.Sea
theorem fnok_150 : fnOk Tryz.prog 150 = true := by kernel_rfl
theorem fnok_166 : fnOk Tryz.prog 166 = true := by kernel_rfl

theorem mv_meet {P : Nat → Nat → Int} {n i k : Nat} (hp : allPt P n) (hi : i < n) (hk : k < n) : mvB (P i 0) (P i 1) (P (nx n i) 0) (P (nx n i) 1) (P k 0) (P k 1) (P (nx n k) 0) (P (nx n k) 1) = meetB (P i 0) (P i 1) (P (nx n i) 0) (P (nx n i) 1) (P k 0) (P k 1) (P (nx n k) 0) (P (nx n k) 1) := by
  unfold mvB
  rw [hp i hi, hp k hk, hp _ (nx_lt (n := n) (i := i) (by omega)), hp _ (nx_lt (n := n) (i := k) (by omega))]; rfl
theorem rsimB_f {P : Nat → Nat → Int} {n i k : Nat} (hp : allPt P n) (h2 : meetB (P i 0) (P i 1) (P (nx n i) 0) (P (nx n i) 1) (P k 0) (P k 1) (P (nx n k) 0) (P (nx n k) 1) = true) (h1 : (i : Int) > 0 ∨ (k : Int) < (n : Int) - 1) (h0 : i + 2 ≤ k) (hi : (i : Int) < n) (hk : (k : Int) < n) : false = simB P n := by
  rw [← mv_meet hp (by omega) (by omega)] at h2
  exact simB_f h2 (by omega) hi hk
theorem smP_1 {P : Nat → Nat → Int} {n i k : Nat} (hp : allPt P n) (hi : (i : Int) < n) (hk : (k : Int) < n) (h2 : meetB (P i 0) (P i 1) (P (nx n i) 0) (P (nx n i) 1) (P k 0) (P k 1) (P (nx n k) 0) (P (nx n k) 1) = false) : smP P n i k := Or.inr (by rw [mv_meet hp (by omega) (by omega)]; exact h2)
theorem smP_2 {P : Nat → Nat → Int} {n i k : Nat} (hp : allPt P n) (hi : (i : Int) < n) (hk : (k : Int) < n) (h : ((i : Int) ≤ 0 ∧ (n : Int) - 1 ≤ k) ∨ meetB (P i 0) (P i 1) (P (nx n i) 0) (P (nx n i) 1) (P k 0) (P k 1) (P (nx n k) 0) (P (nx n k) 1) = false) : smP P n i k := by
  rcases h with h | h
  · exact Or.inl (Or.inr (by omega))
  · exact smP_1 hp hi hk h
theorem smP_0 {P : Nat → Nat → Int} {n i k : Nat} (h : (i : Int) ≤ 0 ∧ (n : Int) - 1 ≤ k) (hk : (k : Int) < n) : smP P n i k := Or.inl (Or.inr (by omega))

set_option maxRecDepth 100000 in
set_option maxHeartbeats 4000000 in
theorem rnext_p (n : Nat) (P : Nat → Nat → Int) (i : Nat) (hn : 0 < n ∧ n ≤ 1000) (hi : i < n) : CallsP Tryz.prog 150 [.one (.lst 2 n (ptI P)), .one (.g (.int .i64 (i)))] (.t (.agg [.g (.int .i64 (P (nx n i) 0)), .g (.int .i64 (P (nx n i) 1))])) := by
  have hm : 0 ≤ ((i : Int) + 1) % (n : Int) ∧ ((i : Int) + 1) % (n : Int) < (n : Int) := ⟨Int.emod_nonneg _ (by omega), Int.emod_lt_of_pos _ (by omega)⟩
  have he : (((i : Int) + 1) % (n : Int)).toNat = nx n i := by unfold nx ixN; rw [Int.add_emod_right]
  refine CallsP_of Tryz.func150 rfl (by rw [Tryz.ntmps150]; simp) ?_
  simp only [Tryz.ntmps150, List.map_cons, List.map_nil, PT.tv, argEnv, Nat.zero_add, Nat.reduceAdd]
  repeat' (first
 | ((with_reducible show AW _ _ _ _); first
 | (with_reducible refine AW_seq_k fun K hK => ?_)
 | (with_reducible refine AW_skip ?_)
 | (with_reducible refine AW_exit ?_)
 | (with_reducible refine AW_ret ?_)
 | (with_reducible refine AW_condI ?_)
 | (with_reducible refine AW_block ?_)
 | ((with_reducible show AW _ (Code.region _ _ _) _ _); first
 | (with_reducible refine AW_regionP 0 [0, 1] ?_)
 | (with_reducible refine AW_regionP 1 [0, 1, 4] ?_)))
 | ((first | (with_reducible refine And.intro ?_ ?_) | (with_reducible refine Need.mk ?_)); focus (first | exact True.intro | (with_reducible assumption) | omega | (refine ⟨?_, ?_⟩ <;> omega) | (intro _; first | exact True.intro | (with_reducible assumption) | omega) | (intros; (repeat' (first | exact True.intro | omega | (with_reducible assumption) | (with_reducible refine And.intro ?_ ?_))); done) | (simp (disch := omega) only [Bool.and_eq_true, Bool.or_eq_true, decide_eq_true_eq, bne_iff_ne, ne_eq] at *; first | done | omega | (intros; omega)) | (simp; done) | (simp; omega) | (simp +contextual; done) | (intro h; rw [h]; rfl) | (intro hq; have hq2 := hq; simp only [Bool.and_eq_true, Bool.or_eq_true, Bool.not_eq_true', Bool.not_not, Bool.not_eq_false', decide_eq_true_eq, decide_eq_false_iff_not] at hq2; (repeat' (first | exact hq | (with_reducible refine And.intro ?_ ?_) | omega | (simp_all; done))); done) | (intros; simp_all; done)))
 | (with_reducible refine retK_n ?_)
 | (with_reducible refine retK_n' ?_)
 | (with_reducible refine retH_n rfl rfl rfl ?_)
 | (with_reducible refine retH_n' rfl rfl rfl ?_)
 | ((with_reducible show condN _ _ _ _ _ _); first
 | ((with_reducible refine condN_t ?_ ?_) <;> (intro hc; (try simp only [Bool.and_eq_true, Bool.or_eq_true, Bool.not_eq_true', Bool.and_eq_false_iff, Bool.or_eq_false_iff, decide_eq_true_eq, decide_eq_false_iff_not, bne_iff_ne, beq_iff_eq, reduceCtorEq, bne_eq_false_iff_eq, beq_eq_false_iff_ne, Bool.not_eq_false', Int.not_le, Int.not_lt, Bool.not_not] at hc); (skip); (try (exfalso; first | contradiction | omega)))))
 | ((fail_if_success (with_reducible show AW _ _ _ _)); simp (maxSteps := 2000000) only [go_sem, reduceIte, reduceCtorEq, Nat.reduceAdd, Nat.reduceLT, Nat.reduceLeDiff, Nat.reduceEqDiff, Nat.reduceMul, Nat.reduceSub, Nat.reduceBEq, Tryz.f150, zc_28, le_53, sl_53, ar_53, ty_28, ptI])
 | ((fail_if_success (with_reducible show AW _ _ _ _)); simp (disch := omega) only [seaWrap, seaDiv, seaMod])
 | ((with_reducible refine hK _ ?_); clear hK K))
  all_goals (first | (rw [he]; exact ⟨rfl, rfl⟩) | rw [he] | skip)

set_option maxRecDepth 100000 in
set_option maxHeartbeats 4000000 in
theorem rturn_p (ax ay bx by' cx cy : Int) (ha : ptB ax ay = true) (hb : ptB bx by' = true) (hc : ptB cx cy = true) : CallsP Tryz.prog 149 [.agg [.g (.int .i64 (ax)), .g (.int .i64 (ay))], .agg [.g (.int .i64 (bx)), .g (.int .i64 (by'))], .agg [.g (.int .i64 (cx)), .g (.int .i64 (cy))]] (.t (.one (.g (.int .i64 (trn ax ay bx by' cx cy))))) := by
  have hA := pt_d.1 ha
  have hB := pt_d.1 hb
  have hC := pt_d.1 hc
  have hX := crs_bd ha hb hc
  refine CallsP_of Tryz.func149 rfl (by rw [Tryz.ntmps149]; simp) ?_
  simp only [Tryz.ntmps149, List.map_cons, List.map_nil, PT.tv, argEnv, Nat.zero_add, Nat.reduceAdd]
  repeat' (first
 | ((with_reducible show AW _ _ _ _); first
 | (with_reducible refine AW_seq_k fun K hK => ?_)
 | (with_reducible refine AW_skip ?_)
 | (with_reducible refine AW_exit ?_)
 | (with_reducible refine AW_ret ?_)
 | (with_reducible refine AW_condI ?_)
 | (with_reducible refine AW_block ?_)
 | ((with_reducible show AW _ (Code.region _ _ _) _ _); first
 | (with_reducible refine AW_regionP 0 [0, 1, 2] ?_)
 | ((with_reducible refine AW_prune (c := Code.region 1 _ true) [3, 4, 5] ?_); (with_reducible refine AW_regionD ?_ ?_ ?_ ?_); (focus kernel_rfl); (focus kernel_rfl); (focus kernel_rfl))))
 | ((first | (with_reducible refine And.intro ?_ ?_) | (with_reducible refine Need.mk ?_)); focus (first | exact True.intro | (with_reducible assumption) | omega | (refine ⟨?_, ?_⟩ <;> omega) | (intro _; first | exact True.intro | (with_reducible assumption) | omega) | (intros; (repeat' (first | exact True.intro | omega | (with_reducible assumption) | (with_reducible refine And.intro ?_ ?_))); done) | (simp (disch := omega) only [Bool.and_eq_true, Bool.or_eq_true, decide_eq_true_eq, bne_iff_ne, ne_eq] at *; first | done | omega | (intros; omega)) | (simp; done) | (simp; omega) | (simp +contextual; done) | (intro h; rw [h]; rfl) | (intro hq; have hq2 := hq; simp only [Bool.and_eq_true, Bool.or_eq_true, Bool.not_eq_true', Bool.not_not, Bool.not_eq_false', decide_eq_true_eq, decide_eq_false_iff_not] at hq2; (repeat' (first | exact hq | (with_reducible refine And.intro ?_ ?_) | omega | (simp_all; done))); done) | (intros; simp_all; done)))
 | (with_reducible refine retK_n ?_)
 | (with_reducible refine retK_n' ?_)
 | (with_reducible refine retH_n rfl rfl rfl ?_)
 | (with_reducible refine retH_n' rfl rfl rfl ?_)
 | ((with_reducible show condN _ _ _ _ _ _); first
 | ((with_reducible refine condN_t ?_ ?_) <;> (intro hc; (try simp only [Bool.and_eq_true, Bool.or_eq_true, Bool.not_eq_true', Bool.and_eq_false_iff, Bool.or_eq_false_iff, decide_eq_true_eq, decide_eq_false_iff_not, bne_iff_ne, beq_iff_eq, reduceCtorEq, bne_eq_false_iff_eq, beq_eq_false_iff_ne, Bool.not_eq_false', Int.not_le, Int.not_lt, Bool.not_not] at hc); (skip); (try (exfalso; first | contradiction | omega)))))
 | ((with_reducible refine And.intro ?_ ?_); focus ((with_reducible show chkR _ _ _ = true); kernel_rfl))
 | ((with_reducible show callDN _ _ _ _ _ _ _ _ _ _ _ _ _); first
 | (refine callDN_q (k := 165) fnok_165 (rminus_p bx by' ax ay hB hA) ?_ ?_)
 | (refine callDN_q (k := 165) fnok_165 (rminus_p cx cy ax ay hC hA) ?_ ?_)
 | (refine callDN_q (k := 164) fnok_164 (rcross_p (bx - ax) (by' - ay) (cx - ax) (cy - ay) hX.1 hX.2) ?_ ?_)
 | (refine callDN_q (k := 163) fnok_163 (rsign_p _) ?_ ?_))
 | ((fail_if_success (with_reducible show AW _ _ _ _)); simp (maxSteps := 2000000) only [go_sem, reduceIte, reduceCtorEq, Nat.reduceAdd, Nat.reduceLT, Nat.reduceLeDiff, Nat.reduceEqDiff, Nat.reduceMul, Nat.reduceSub, Nat.reduceBEq, Tryz.f149, ty_28, fnok_165, fnok_164, fnok_163])
 | ((with_reducible refine hK _ ?_); clear hK K))
  all_goals (first | rfl | skip)

set_option maxRecDepth 100000 in
set_option maxHeartbeats 4000000 in
theorem rtwice_p (n : Nat) (P : Nat → Nat → Int) (hn : 0 < n ∧ n ≤ 1000) (hp : allPt P n) : CallsP Tryz.prog 152 [.one (.lst 2 n (ptI P))] (.t (.one (.g (.int .i64 (twF P n n))))) := by
  refine CallsP_of Tryz.func152 rfl (by rw [Tryz.ntmps152]; simp) ?_
  simp only [Tryz.ntmps152, List.map_cons, List.map_nil, PT.tv, argEnv, Nat.zero_add, Nat.reduceAdd]
  repeat' (first
 | ((with_reducible show AW _ _ _ _); first
 | (with_reducible refine AW_seq_k fun K hK => ?_)
 | (with_reducible refine AW_skip ?_)
 | (with_reducible refine AW_exit ?_)
 | (with_reducible refine AW_ret ?_)
 | (with_reducible refine AW_condI ?_)
 | (with_reducible refine AW_block ?_)
 | ((with_reducible show AW _ (Code.region _ _ _) _ _); first
 | (with_reducible refine AW_regionP 0 [0] ?_)
 | (with_reducible refine AW_regionP 1 [0] ?_)
 | (with_reducible refine AW_regionP 2 [0, 3] ?_)
 | (with_reducible refine AW_regionP 3 [0, 3, 4] ?_)
 | (with_reducible refine AW_regionP 4 [0, 3, 4] ?_)
 | ((with_reducible refine AW_prune (c := Code.region 5 _ true) [0, 3, 4] ?_); (with_reducible refine AW_regionD ?_ ?_ ?_ ?_); (focus kernel_rfl); (focus kernel_rfl); (focus kernel_rfl))
 | (with_reducible refine AW_regionP 6 [3] ?_))
 | ((with_reducible show AW _ (Code.loop _) _ _); first
 | ((with_reducible refine AW_loopQ (c := (Code.seq (Code.seq (Code.region 3 _ _) _) _)) (ι := Nat) [0] (fun i => [(3, iA .i64 (twF P n i)), (4, iA .i64 (i : Int))]) (fun i => []) (fun i => i ≤ n) (fun i => n - i) 0 ?lg3 ?l13 ?l23 ?li3 ?lr3); (case' lg3 => rintro i _); (case' li3 => try exact Nat.zero_le _); (case' lr3 => rintro i hi KR hR3; (have hb := twF_bd hp i (by omega); have ht : i < n → _ := fun hi' => tw_mul hp hi' (nx_lt (n := n) (i := i) (by omega))); simp only [keepE, hupd, hset, lk, if_true, if_false, Nat.reduceEqDiff, reduceIte, List.cons_append, List.nil_append, ptI, twF_s]))))
 | ((first | (with_reducible refine And.intro ?_ ?_) | (with_reducible refine Need.mk ?_)); focus (first | exact True.intro | (with_reducible assumption) | omega | (refine ⟨?_, ?_⟩ <;> omega) | (intro _; first | exact True.intro | (with_reducible assumption) | omega) | (intros; (repeat' (first | exact True.intro | omega | (with_reducible assumption) | (with_reducible refine And.intro ?_ ?_))); done) | (simp (disch := omega) only [Bool.and_eq_true, Bool.or_eq_true, decide_eq_true_eq, bne_iff_ne, ne_eq] at *; first | done | omega | (intros; omega)) | (simp; done) | (simp; omega) | (simp +contextual; done) | (intro h; rw [h]; rfl) | (intro hq; have hq2 := hq; simp only [Bool.and_eq_true, Bool.or_eq_true, Bool.not_eq_true', Bool.not_not, Bool.not_eq_false', decide_eq_true_eq, decide_eq_false_iff_not] at hq2; (repeat' (first | exact hq | (with_reducible refine And.intro ?_ ?_) | omega | (simp_all; done))); done) | (intros; simp_all; done)))
 | (with_reducible refine retK_n ?_)
 | (with_reducible refine retK_n' ?_)
 | (with_reducible refine retH_n rfl rfl rfl ?_)
 | (with_reducible refine retH_n' rfl rfl rfl ?_)
 | ((with_reducible show condN _ _ _ _ _ _); first
 | ((with_reducible refine condN_t ?_ ?_) <;> (intro hc; (try simp only [Bool.and_eq_true, Bool.or_eq_true, Bool.not_eq_true', Bool.and_eq_false_iff, Bool.or_eq_false_iff, decide_eq_true_eq, decide_eq_false_iff_not, bne_iff_ne, beq_iff_eq, reduceCtorEq, bne_eq_false_iff_eq, beq_eq_false_iff_ne, Bool.not_eq_false', Int.not_le, Int.not_lt, Bool.not_not] at hc); (skip); (try (exfalso; first | contradiction | omega)))))
 | ((with_reducible refine And.intro ?_ ?_); focus ((with_reducible show chkR _ _ _ = true); kernel_rfl))
 | ((with_reducible show callDN _ _ _ _ _ _ _ _ _ _ _ _ _); first
 | (refine callDN_q (k := 150) fnok_150 (rnext_p n P _ hn (by omega)) ?_ ?_)
 | (refine callDN_q (k := 164) fnok_164 (rcross_p _ _ _ _ (by omega) (by omega)) ?_ ?_))
 | ((with_reducible refine hR3 _ (i + 1) ?_); (try clear hR3 KR))
 | ((with_reducible refine Told.mk ?_); simp only [go_sem, reduceIte, reduceCtorEq, Nat.reduceAdd, Nat.reduceLT, Nat.reduceLeDiff, Nat.reduceEqDiff, Nat.reduceMul, Nat.reduceSub, Nat.reduceBEq, ptI, twF_s] <;> (first | exact True.intro | (((try simp (disch := omega) only [seaWrap, Int.natCast_add, Int.cast_ofNat_Int, and_true, true_and, and_self]); (repeat' (first | exact True.intro | omega | rfl | (with_reducible assumption) | (with_reducible refine And.intro ?_ ?_) | (exact all_succ (by assumption) (by assumption)) | ((simp (disch := omega) only [seaWrap]; omega)))); done)) | (refine Stuck.out ?_)))
 | ((fail_if_success (with_reducible show AW _ _ _ _)); simp (maxSteps := 2000000) only [go_sem, reduceIte, reduceCtorEq, Nat.reduceAdd, Nat.reduceLT, Nat.reduceLeDiff, Nat.reduceEqDiff, Nat.reduceMul, Nat.reduceSub, Nat.reduceBEq, Tryz.f152, le_53, sl_53, ar_53, ty_28, fnok_150, fnok_164, ptI, twF_s])
 | ((fail_if_success (with_reducible show AW _ _ _ _)); simp (disch := omega) only [seaWrap, seaDiv, seaMod])
 | ((with_reducible refine hK _ ?_); clear hK K)
 | (with_reducible apply_assumption -exfalso only [*]))
  all_goals (first | ((obtain rfl : i = n := by omega); rfl) | skip)

set_option maxRecDepth 100000 in
set_option maxHeartbeats 4000000 in
theorem rsimple_p (n : Nat) (P : Nat → Nat → Int) (hn : 0 < n ∧ n ≤ 1000) (hp : allPt P n) : CallsP Tryz.prog 151 [.one (.lst 2 n (ptI P))] (.t (.one (.g (.bool (simB P n))))) := by
  refine CallsP_of Tryz.func151 rfl (by rw [Tryz.ntmps151]; simp) ?_
  simp only [Tryz.ntmps151, List.map_cons, List.map_nil, PT.tv, argEnv, Nat.zero_add, Nat.reduceAdd]
  repeat' (first
 | ((with_reducible show AW _ _ _ _); first
 | (with_reducible refine AW_seq_k fun K hK => ?_)
 | (with_reducible refine AW_skip ?_)
 | (with_reducible refine AW_exit ?_)
 | (with_reducible refine AW_ret ?_)
 | (with_reducible refine AW_condI ?_)
 | (with_reducible refine AW_block ?_)
 | ((with_reducible show AW _ (Code.region _ _ _) _ _); first
 | (with_reducible refine AW_regionP 0 [0] ?_)
 | (with_reducible refine AW_regionP 1 [0] ?_)
 | (with_reducible refine AW_regionP 2 [0, 3] ?_)
 | (with_reducible refine AW_regionP 3 [0, 3, 4] ?_)
 | (with_reducible refine AW_regionP 4 [0, 3, 4] ?_)
 | (with_reducible refine AW_regionP 5 [0, 3, 4] ?_)
 | (with_reducible refine AW_regionP 6 [0, 3, 4, 5] ?_)
 | (with_reducible refine AW_regionP 7 [0, 3, 4, 5] ?_)
 | ((with_reducible refine AW_prune (c := Code.region 8 _ true) [0, 3, 4, 5] ?_); (with_reducible refine AW_regionD ?_ ?_ ?_ ?_); (focus kernel_rfl); (focus kernel_rfl); (focus kernel_rfl))
 | (with_reducible refine AW_regionP 9 [] ?_)
 | (with_reducible refine AW_regionP 10 [] ?_))
 | ((with_reducible show AW _ (Code.loop _) _ _); first
 | ((with_reducible refine AW_loopQ (c := (Code.seq (Code.seq (Code.region 3 _ _) _) _)) (ι := Nat) [0, 3] (fun i => [(4, iA .i64 (i : Int))]) (fun i => []) (fun i => i ≤ n ∧ (∀ i', i' < i → ∀ k', k' < n → smP P n i' k')) (fun i => n - i) 0 ?lg3 ?l13 ?l23 ?li3 ?lr3); (case' lg3 => rintro i _); (case' li3 => try (exact ⟨Nat.zero_le _, fun i hi => absurd hi (Nat.not_lt_zero _)⟩)); (case' lr3 => rintro i ⟨hi, hai⟩ KR hR3; skip; simp only [keepE, hupd, hset, lk, if_true, if_false, Nat.reduceEqDiff, reduceIte, List.cons_append, List.nil_append, ptI]))
 | ((with_reducible refine AW_loopQ (c := (Code.seq (Code.seq (Code.region 6 _ _) _) _)) (ι := Nat) [0, 3, 4] (fun k => [(5, iA .i64 (k : Int))]) (fun k => []) (fun k => i + 2 ≤ k ∧ (k ≤ n ∨ k = i + 2) ∧ (∀ k', k' < k → smP P n i k')) (fun k => n - k) (i + 2) ?lg6 ?l16 ?l26 ?li6 ?lr6); (case' lg6 => rintro k _); (case' li6 => try (exact ⟨by omega, by omega, fun k2 h2 => Or.inl (Or.inl (by omega))⟩)); (case' lr6 => rintro k ⟨hk0, hk, hak⟩ KR hR6; skip; simp only [keepE, hupd, hset, lk, if_true, if_false, Nat.reduceEqDiff, reduceIte, List.cons_append, List.nil_append, ptI]))))
 | ((first | (with_reducible refine And.intro ?_ ?_) | (with_reducible refine Need.mk ?_)); focus (first | exact True.intro | (with_reducible assumption) | omega | (refine ⟨?_, ?_⟩ <;> omega) | (intro _; first | exact True.intro | (with_reducible assumption) | omega) | (intros; (repeat' (first | exact True.intro | omega | (with_reducible assumption) | (with_reducible refine And.intro ?_ ?_))); done) | (simp (disch := omega) only [Bool.and_eq_true, Bool.or_eq_true, decide_eq_true_eq, bne_iff_ne, ne_eq] at *; first | done | omega | (intros; omega)) | (simp; done) | (simp; omega) | (simp +contextual; done) | (intro h; rw [h]; rfl) | (intro hq; have hq2 := hq; simp only [Bool.and_eq_true, Bool.or_eq_true, Bool.not_eq_true', Bool.not_not, Bool.not_eq_false', decide_eq_true_eq, decide_eq_false_iff_not] at hq2; (repeat' (first | exact hq | (with_reducible refine And.intro ?_ ?_) | omega | (simp_all; done))); done) | (intros; simp_all; done)))
 | (with_reducible refine retK_n ?_)
 | (with_reducible refine retK_n' ?_)
 | (with_reducible refine retH_n rfl rfl rfl ?_)
 | (with_reducible refine retH_n' rfl rfl rfl ?_)
 | ((with_reducible show condN _ _ _ _ _ _); first
 | ((with_reducible refine condN_t ?_ ?_) <;> (intro hc; (try simp only [Bool.and_eq_true, Bool.or_eq_true, Bool.not_eq_true', Bool.and_eq_false_iff, Bool.or_eq_false_iff, decide_eq_true_eq, decide_eq_false_iff_not, bne_iff_ne, beq_iff_eq, reduceCtorEq, bne_eq_false_iff_eq, beq_eq_false_iff_ne, Bool.not_eq_false', Int.not_le, Int.not_lt, Bool.not_not] at hc); (skip); (try (exfalso; first | contradiction | omega)))))
 | ((with_reducible refine And.intro ?_ ?_); focus ((with_reducible show chkR _ _ _ = true); kernel_rfl))
 | ((with_reducible show callDGN _ _ _ _ _ _ _ _ _ _ _ _ _); first
 | (refine callDGN_q (k := 150) fnok_150 (fun hg => rnext_p n P _ hn (by omega)) ?_ ?_)
 | (refine callDGN_q (k := 166) fnok_166 (fun hg => rcrosses_p _ _ _ _ _ _ _ _ (hp _ (by omega)) (hp _ (nx_lt (by omega))) (hp _ (by omega)) (hp _ (nx_lt (by omega)))) ?_ ?_))
 | ((with_reducible refine hR3 _ (i + 1) ?_); (try clear hR3 KR))
 | ((with_reducible refine hR6 _ (k + 1) ?_); (try clear hR6 KR))
 | ((with_reducible refine Told.mk ?_); simp only [go_sem, reduceIte, reduceCtorEq, Nat.reduceAdd, Nat.reduceLT, Nat.reduceLeDiff, Nat.reduceEqDiff, Nat.reduceMul, Nat.reduceSub, Nat.reduceBEq, ptI] <;> (first | exact True.intro | (((try simp (disch := omega) only [seaWrap, Int.natCast_add, Int.cast_ofNat_Int, and_true, true_and, and_self]); (repeat' (first | exact True.intro | omega | rfl | (with_reducible assumption) | (with_reducible refine And.intro ?_ ?_) | (exact all_succ (by assumption) (by assumption)) | ((exact all_succ (by assumption) (fun k' hk' => hak k' (by omega)))))); done)) | (((try simp (disch := omega) only [seaWrap, Int.natCast_add, Int.cast_ofNat_Int, and_true, true_and, and_self]); (repeat' (first | exact True.intro | omega | rfl | (with_reducible assumption) | (with_reducible refine And.intro ?_ ?_) | (exact all_succ (by assumption) (by assumption)) | ((exact all_succ (by assumption) (smP_0 (by omega) (by omega)))) | ((exact all_succ (by assumption) (smP_1 hp (by assumption) (by assumption) (by assumption)))) | ((exact all_succ (by assumption) (smP_2 hp (by assumption) (by assumption) (by assumption)))))); done)) | (refine Stuck.out ?_)))
 | ((fail_if_success (with_reducible show AW _ _ _ _)); simp (maxSteps := 2000000) only [go_sem, reduceIte, reduceCtorEq, Nat.reduceAdd, Nat.reduceLT, Nat.reduceLeDiff, Nat.reduceEqDiff, Nat.reduceMul, Nat.reduceSub, Nat.reduceBEq, Tryz.f151, le_53, sl_53, ar_53, ty_28, fnok_150, fnok_166, ptI])
 | ((fail_if_success (with_reducible show AW _ _ _ _)); simp (disch := omega) only [seaWrap, seaDiv, seaMod])
 | ((with_reducible refine hK _ ?_); clear hK K)
 | (with_reducible apply_assumption -exfalso only [*]))
  all_goals (first | exact rsimB_f hp hc.2 hc.1 (by omega) (by omega) (by omega) | exact simB_t (by assumption) (by assumption) | skip)

end Go.Proofs.YtbckibbgajfihaaGreat
