/- He: walks on abstract states. -/
import Derived.Test.YtbckibbgajfihaaGreatHa
set_option linter.unusedVariables false
set_option linter.unusedSimpArgs false
namespace Go.Proofs.YtbckibbgajfihaaGreat
open Go.RowKit Go.Sea
theorem fnok_72 : fnOk Tryz.prog 72 = true := by kernel_rfl
theorem fnok_73 : fnOk Tryz.prog 73 = true := by kernel_rfl
theorem fnok_92 : fnOk Tryz.prog 92 = true := by kernel_rfl

theorem rnot_f1 {N : NotS} {i : Nat} (hi : (i : Int) < N.n) (h : partB (N.p i) N.nu = false ∨ (i : Int) > 0 ∧ (N.p i).ch ≤ (N.p (i - 1)).ch) : false = notB N := (decide_eq_false fun g => by
  have g1 := g.2 i (by omega)
  rcases h with h | h
  · rw [g1.2] at h; cases h
  · have := g1.1 (by omega); omega).symm

set_option maxRecDepth 100000 in
set_option maxHeartbeats 4000000 in
theorem rtime_p (t : Int) : CallsP Tryz.prog 72 [.one (.g (.int .i64 t))] (.t (.one (.g (.bool (decide (0 ≤ t ∧ t ≤ 10000000)))))) := by
  refine CallsP_of Tryz.func72 rfl (by rw [Tryz.ntmps72]; simp) ?_
  simp only [Tryz.ntmps72, List.map_cons, List.map_nil, PT.tv, argEnv, Nat.zero_add, Nat.reduceAdd]
  repeat' (first
 | ((with_reducible show AW _ _ _ _); first
 | (with_reducible refine AW_seq_k fun K hK => ?_)
 | (with_reducible refine AW_skip ?_)
 | (with_reducible refine AW_exit ?_)
 | (with_reducible refine AW_ret ?_)
 | (with_reducible refine AW_condI ?_)
 | (with_reducible refine AW_block ?_)
 | ((with_reducible show AW _ (Code.region _ _ _) _ _); first
 | (with_reducible refine AW_regionP 0 [0] ?_)
 | (with_reducible refine AW_regionP 1 [0] ?_)))
 | ((first | (with_reducible refine And.intro ?_ ?_) | (with_reducible refine Need.mk ?_)); focus (first | exact True.intro | (with_reducible assumption) | omega | (refine ⟨?_, ?_⟩ <;> omega) | (intro _; first | exact True.intro | (with_reducible assumption) | omega) | (intros; (repeat' (first | exact True.intro | omega | (with_reducible assumption) | (with_reducible refine And.intro ?_ ?_))); done) | (simp (disch := omega) only [Bool.and_eq_true, Bool.or_eq_true, decide_eq_true_eq, bne_iff_ne, ne_eq] at *; first | done | omega | (intros; omega)) | (simp; done) | (simp; omega) | (simp +contextual; done) | (intro h; rw [h]; rfl) | (intro hq; have hq2 := hq; simp only [Bool.and_eq_true, Bool.or_eq_true, Bool.not_eq_true', Bool.not_not, Bool.not_eq_false', decide_eq_true_eq, decide_eq_false_iff_not] at hq2; (repeat' (first | exact hq | (with_reducible refine And.intro ?_ ?_) | omega | (simp_all; done))); done) | (intros; simp_all; done)))
 | (with_reducible refine retK_n ?_)
 | (with_reducible refine retK_n' ?_)
 | (with_reducible refine retH_n rfl rfl rfl ?_)
 | (with_reducible refine retH_n' rfl rfl rfl ?_)
 | ((with_reducible show condN _ _ _ _ _ _); first
 | ((with_reducible refine condN_t ?_ ?_) <;> (intro hc; (try simp only [Bool.and_eq_true, Bool.or_eq_true, Bool.not_eq_true', Bool.and_eq_false_iff, Bool.or_eq_false_iff, decide_eq_true_eq, decide_eq_false_iff_not, bne_iff_ne, beq_iff_eq, reduceCtorEq, bne_eq_false_iff_eq, beq_eq_false_iff_ne, Bool.not_eq_false', Int.not_le, Int.not_lt, Bool.not_not] at hc); (skip); (try (exfalso; first | contradiction | omega)))))
 | ((fail_if_success (with_reducible show AW _ _ _ _)); simp (maxSteps := 2000000) only [go_sem, reduceIte, reduceCtorEq, Nat.reduceAdd, Nat.reduceLT, Nat.reduceLeDiff, Nat.reduceEqDiff, Nat.reduceMul, Nat.reduceSub, Nat.reduceBEq, Tryz.f72])
 | ((with_reducible refine hK _ ?_); clear hK K))
  all_goals (first | (try refine Bool.eq_iff_iff.2 ?_); (simp only [Bool.and_eq_true, Bool.or_eq_true, Bool.not_eq_true', decide_eq_true_eq, decide_eq_false_iff_not, bne_iff_ne, beq_iff_eq, ne_eq, ge_iff_le, gt_iff_lt, cond_eq_ite, iff_self, eq_self]; first | done | omega) | skip)

set_option maxRecDepth 100000 in
set_option maxHeartbeats 4000000 in
theorem rpart_p (p : PartS) (nu : Int) (hp : p.Ok) : CallsP Tryz.prog 73 [.agg [.g (.int .i64 p.ch), .lst 1 p.q (intI p.a), .lst 16 p.k (oprF p.o)], .one (.g (.int .i64 nu))] (.t (.one (.g (.bool (partB p nu))))) := by
  have hpq := hp.q
  have hpk := hp.k
  refine CallsP_of Tryz.func73 rfl (by rw [Tryz.ntmps73]; simp) ?_
  simp only [Tryz.ntmps73, List.map_cons, List.map_nil, PT.tv, argEnv, Nat.zero_add, Nat.reduceAdd]
  repeat' (first
 | ((with_reducible show AW _ _ _ _); first
 | (with_reducible refine AW_seq_k fun K hK => ?_)
 | (with_reducible refine AW_skip ?_)
 | (with_reducible refine AW_exit ?_)
 | (with_reducible refine AW_ret ?_)
 | (with_reducible refine AW_condI ?_)
 | (with_reducible refine AW_block ?_)
 | ((with_reducible show AW _ (Code.region _ _ _) _ _); first
 | (with_reducible refine AW_regionP 0 [0, 1] ?_)
 | (with_reducible refine AW_regionP 1 [1, 2] ?_)
 | (with_reducible refine AW_regionP 2 [] ?_)
 | (with_reducible refine AW_regionP 3 [1, 2] ?_)
 | (with_reducible refine AW_regionP 4 [1, 2, 5] ?_)
 | (with_reducible refine AW_regionP 5 [1, 2, 5] ?_)
 | ((with_reducible refine AW_prune (c := Code.region 6 _ true) [1, 2, 5] ?_); (with_reducible refine AW_regionD ?_ ?_ ?_ ?_); (focus kernel_rfl); (focus kernel_rfl); (focus kernel_rfl))
 | (with_reducible refine AW_regionP 7 [] ?_)
 | (with_reducible refine AW_regionP 8 [2] ?_)
 | (with_reducible refine AW_regionP 9 [2, 6] ?_)
 | (with_reducible refine AW_regionP 10 [2, 6] ?_)
 | (with_reducible refine AW_regionP 11 [2, 6] ?_)
 | (with_reducible refine AW_regionP 12 [] ?_)
 | (with_reducible refine AW_regionP 13 [] ?_))
 | ((with_reducible show AW _ (Code.loop _) _ _); first
 | ((with_reducible refine AW_loopQ (c := (Code.seq (Code.seq (Code.region 4 _ _) _) _)) (ι := Nat) [1, 2] (fun i => [(5, iA .i64 (i : Int))]) (fun i => []) (fun i => i ≤ p.q ∧ (∀ i', i' < i → aftO p.a nu i')) (fun i => p.q - i) 0 ?lg4 ?l14 ?l24 ?li4 ?lr4); (case' lg4 => rintro i _); (case' li4 => try (exact ⟨Nat.zero_le _, fun i hi => absurd hi (Nat.not_lt_zero _)⟩)); (case' lr4 => rintro i ⟨hi, hai⟩ KR hR4; skip; simp only [keepE, hupd, hset, lk, if_true, if_false, Nat.reduceEqDiff, reduceIte, List.cons_append, List.nil_append, partF0, partF1, partF2, intI, oprF0, oprF1, oprF2, oprF3, oprF4, oprF5, oprF6, oprF7, oprF8, oprF9, oprF10, oprF11, oprF12, oprF13, oprF14, oprF15]))
 | ((with_reducible refine AW_loopQ (c := (Code.seq (Code.seq (Code.region 9 _ _) _) _)) (ι := Nat) [2] (fun j => [(6, iA .i64 (j : Int))]) (fun j => []) (fun j => j ≤ p.k ∧ (∀ j', j' < j → opB (p.o j') = true)) (fun j => p.k - j) 0 ?lg9 ?l19 ?l29 ?li9 ?lr9); (case' lg9 => rintro j _); (case' li9 => try (exact ⟨Nat.zero_le _, fun i hi => absurd hi (Nat.not_lt_zero _)⟩)); (case' lr9 => rintro j ⟨hj, haj⟩ KR hR9; skip; simp only [keepE, hupd, hset, lk, if_true, if_false, Nat.reduceEqDiff, reduceIte, List.cons_append, List.nil_append, partF0, partF1, partF2, intI, oprF0, oprF1, oprF2, oprF3, oprF4, oprF5, oprF6, oprF7, oprF8, oprF9, oprF10, oprF11, oprF12, oprF13, oprF14, oprF15]))))
 | ((first | (with_reducible refine And.intro ?_ ?_) | (with_reducible refine Need.mk ?_)); focus (first | exact True.intro | (with_reducible assumption) | omega | (refine ⟨?_, ?_⟩ <;> omega) | (intro _; first | exact True.intro | (with_reducible assumption) | omega) | (intros; (repeat' (first | exact True.intro | omega | (with_reducible assumption) | (with_reducible refine And.intro ?_ ?_))); done) | (simp (disch := omega) only [Bool.and_eq_true, Bool.or_eq_true, decide_eq_true_eq, bne_iff_ne, ne_eq] at *; first | done | omega | (intros; omega)) | (simp; done) | (simp; omega) | (simp +contextual; done) | (intro h; rw [h]; rfl) | (intro hq; have hq2 := hq; simp only [Bool.and_eq_true, Bool.or_eq_true, Bool.not_eq_true', Bool.not_not, Bool.not_eq_false', decide_eq_true_eq, decide_eq_false_iff_not] at hq2; (repeat' (first | exact hq | (with_reducible refine And.intro ?_ ?_) | omega | (simp_all; done))); done) | (intros; simp_all; done)))
 | (with_reducible refine retK_n ?_)
 | (with_reducible refine retK_n' ?_)
 | (with_reducible refine retH_n rfl rfl rfl ?_)
 | (with_reducible refine retH_n' rfl rfl rfl ?_)
 | ((with_reducible show condN _ _ _ _ _ _); first
 | ((with_reducible refine condN_t ?_ ?_) <;> (intro hc; (try simp only [Bool.and_eq_true, Bool.or_eq_true, Bool.not_eq_true', Bool.and_eq_false_iff, Bool.or_eq_false_iff, decide_eq_true_eq, decide_eq_false_iff_not, bne_iff_ne, beq_iff_eq, reduceCtorEq, bne_eq_false_iff_eq, beq_eq_false_iff_ne, Bool.not_eq_false', Int.not_le, Int.not_lt, Bool.not_not] at hc); (skip); (try (exfalso; first | contradiction | omega)))))
 | ((with_reducible refine And.intro ?_ ?_); focus ((with_reducible show chkR _ _ _ = true); kernel_rfl))
 | ((with_reducible show callN _ _ _ _ _ _ _ _ _ _); first
 | (refine callN_q (k := 92) fnok_92 (rOp_p _ (hp.o _ (by omega))) ?_ ?_))
 | ((with_reducible refine hR4 _ (i + 1) ?_); (try clear hR4 KR))
 | ((with_reducible refine hR9 _ (j + 1) ?_); (try clear hR9 KR))
 | ((with_reducible refine Told.mk ?_); simp only [go_sem, reduceIte, reduceCtorEq, Nat.reduceAdd, Nat.reduceLT, Nat.reduceLeDiff, Nat.reduceEqDiff, Nat.reduceMul, Nat.reduceSub, Nat.reduceBEq, partF0, partF1, partF2, intI, oprF0, oprF1, oprF2, oprF3, oprF4, oprF5, oprF6, oprF7, oprF8, oprF9, oprF10, oprF11, oprF12, oprF13, oprF14, oprF15] <;> (first | exact True.intro | (((try simp (disch := omega) only [seaWrap, Int.natCast_add, Int.cast_ofNat_Int, and_true, true_and, and_self]); (repeat' (first | exact True.intro | omega | rfl | (with_reducible assumption) | (with_reducible refine And.intro ?_ ?_) | (exact all_succ (by assumption) (by assumption)) | ((exact all_succ (by assumption) ⟨by omega, by omega, fun h0 => by omega⟩)))); done)) | (((try simp (disch := omega) only [seaWrap, Int.natCast_add, Int.cast_ofNat_Int, and_true, true_and, and_self]); (repeat' (first | exact True.intro | omega | rfl | (with_reducible assumption) | (with_reducible refine And.intro ?_ ?_) | (exact all_succ (by assumption) (by assumption)) )); done)) | (refine Stuck.out ?_)))
 | ((fail_if_success (with_reducible show AW _ _ _ _)); simp (maxSteps := 2000000) only [go_sem, reduceIte, reduceCtorEq, Nat.reduceAdd, Nat.reduceLT, Nat.reduceLeDiff, Nat.reduceEqDiff, Nat.reduceMul, Nat.reduceSub, Nat.reduceBEq, Tryz.f73, of_52_0, ty_3, of_52_1, ty_24, le_24, of_52_2, ty_50, le_50, sl_24, ar_24, sl_50, ar_50, ty_59, fnok_92, partF0, partF1, partF2, intI, oprF0, oprF1, oprF2, oprF3, oprF4, oprF5, oprF6, oprF7, oprF8, oprF9, oprF10, oprF11, oprF12, oprF13, oprF14, oprF15])
 | ((fail_if_success (with_reducible show AW _ _ _ _)); simp (disch := omega) only [seaWrap, seaDiv, seaMod])
 | ((with_reducible refine hK _ ?_); clear hK K)
 | (with_reducible apply_assumption -exfalso only [*]))
  all_goals (first | exact part_f0 (by omega) | exact part_f1 (by assumption) (fun g => by have g2 := g.2.2; have := g.1; have := g.2.1; omega) | exact part_f2 (by assumption) (by assumption) | exact part_t (by omega) (by assumption) hai (by assumption) haj | skip)

set_option maxRecDepth 100000 in
set_option maxHeartbeats 4000000 in
theorem rNot_p (N : NotS) (ho : N.Ok) : CallsP Tryz.prog 53 [.agg [.g (.int .i64 N.oc), .g (.int .i64 N.nu), .g (.int .i64 N.kd), .g (.int .i64 N.fr), .g (.int .i64 N.un), .g (.int .i64 N.ca), .lst 3 N.n (partF N.p)]] (.t (.one (.g (.bool (notB N))))) := by
  have hnn := ho.n
  refine CallsP_of Tryz.func53 rfl (by rw [Tryz.ntmps53]; simp) ?_
  simp only [Tryz.ntmps53, List.map_cons, List.map_nil, PT.tv, argEnv, Nat.zero_add, Nat.reduceAdd]
  repeat' (first
 | ((with_reducible show AW _ _ _ _); first
 | (with_reducible refine AW_seq_k fun K hK => ?_)
 | (with_reducible refine AW_skip ?_)
 | (with_reducible refine AW_exit ?_)
 | (with_reducible refine AW_ret ?_)
 | (with_reducible refine AW_condI ?_)
 | (with_reducible refine AW_block ?_)
 | ((with_reducible show AW _ (Code.region _ _ _) _ _); first
 | (with_reducible refine AW_regionP 0 [0] ?_)
 | (with_reducible refine AW_regionP 1 [1] ?_)
 | (with_reducible refine AW_regionP 2 [] ?_)
 | (with_reducible refine AW_regionP 3 [1] ?_)
 | (with_reducible refine AW_regionP 4 [1] ?_)
 | (with_reducible refine AW_regionP 5 [] ?_)
 | (with_reducible refine AW_regionP 6 [1] ?_)
 | (with_reducible refine AW_regionP 7 [] ?_)
 | (with_reducible refine AW_regionP 8 [1] ?_)
 | (with_reducible refine AW_regionP 9 [1] ?_)
 | (with_reducible refine AW_regionP 10 [] ?_)
 | (with_reducible refine AW_regionP 11 [1] ?_)
 | (with_reducible refine AW_regionP 12 [] ?_)
 | (with_reducible refine AW_regionP 13 [1] ?_)
 | (with_reducible refine AW_regionP 14 [1, 3] ?_)
 | (with_reducible refine AW_regionP 15 [1, 3] ?_)
 | ((with_reducible refine AW_prune (c := Code.region 16 _ true) [1, 3] ?_); (with_reducible refine AW_regionD ?_ ?_ ?_ ?_); (focus kernel_rfl); (focus kernel_rfl); (focus kernel_rfl))
 | (with_reducible refine AW_regionP 17 [] ?_)
 | (with_reducible refine AW_regionP 18 [] ?_)))
 | ((first | (with_reducible refine And.intro ?_ ?_) | (with_reducible refine Need.mk ?_)); focus (first | exact True.intro | (with_reducible assumption) | omega | (refine ⟨?_, ?_⟩ <;> omega) | (intro _; first | exact True.intro | (with_reducible assumption) | omega) | (intros; (repeat' (first | exact True.intro | omega | (with_reducible assumption) | (with_reducible refine And.intro ?_ ?_))); done) | (simp (disch := omega) only [Bool.and_eq_true, Bool.or_eq_true, decide_eq_true_eq, bne_iff_ne, ne_eq] at *; first | done | omega | (intros; omega)) | (simp; done) | (simp; omega) | (simp +contextual; done) | (intro h; rw [h]; rfl) | (intro hq; have hq2 := hq; simp only [Bool.and_eq_true, Bool.or_eq_true, Bool.not_eq_true', Bool.not_not, Bool.not_eq_false', decide_eq_true_eq, decide_eq_false_iff_not] at hq2; (repeat' (first | exact hq | (with_reducible refine And.intro ?_ ?_) | omega | (simp_all; done))); done) | (intros; simp_all; done)))
 | (with_reducible refine retK_n ?_)
 | (with_reducible refine retK_n' ?_)
 | (with_reducible refine retH_n rfl rfl rfl ?_)
 | (with_reducible refine retH_n' rfl rfl rfl ?_)
 | ((with_reducible show condN _ _ _ _ _ _); first
 | ((with_reducible refine condN_t ?_ ?_) <;> (intro hc; (try simp only [Bool.and_eq_true, Bool.or_eq_true, Bool.not_eq_true', Bool.and_eq_false_iff, Bool.or_eq_false_iff, decide_eq_true_eq, decide_eq_false_iff_not, bne_iff_ne, beq_iff_eq, reduceCtorEq, bne_eq_false_iff_eq, beq_eq_false_iff_ne, Bool.not_eq_false', Int.not_le, Int.not_lt, Bool.not_not] at hc); (skip); (try (exfalso; first | contradiction | omega)))))
 | ((with_reducible refine And.intro ?_ ?_); focus ((with_reducible show chkR _ _ _ = true); kernel_rfl))
 | ((with_reducible show callGN _ _ _ _ _ _ _ _ _ _); first
 | (refine callGN_q (k := 72) fnok_72 (fun hg => rtime_p _) ?_ ?_))
 | ((with_reducible show callDN _ _ _ _ _ _ _ _ _ _ _ _ _); first
 | (refine callDN_q (k := 73) fnok_73 (rpart_p (N.p i) N.nu (ho.p i (by omega))) ?_ ?_))
 | ((have q1 : N.kd = 2 := (by omega); with_reducible refine AW_loopQ (c := (Code.seq (Code.seq (Code.region 14 _ _) _) _)) (ι := Nat) [1] (fun i => [(3, iA .i64 (i : Int))]) (fun i => []) (fun i => i ≤ N.n ∧ (∀ i', i' < i → npO N.p N.nu i')) (fun i => N.n - i) 0 ?lg14a ?l114a ?l214a ?li14a ?lr14a); (case' lg14a => rintro i _); (case' li14a => try (exact ⟨Nat.zero_le _, fun i hi => absurd hi (Nat.not_lt_zero _)⟩)); (case' lr14a => rintro i ⟨hi, hai⟩ KR hR14a; skip; simp only [keepE, hupd, hset, lk, if_true, if_false, Nat.reduceEqDiff, reduceIte, List.cons_append, List.nil_append, partF0, partF1, partF2, intI]))
 | ((with_reducible refine hR14a _ (i + 1) ?_); (try clear hR14a KR))
 | ((have q1 : N.kd = 4 := (by omega); with_reducible refine AW_loopQ (c := (Code.seq (Code.seq (Code.region 14 _ _) _) _)) (ι := Nat) [1] (fun i => [(3, iA .i64 (i : Int))]) (fun i => []) (fun i => i ≤ N.n ∧ (∀ i', i' < i → npO N.p N.nu i')) (fun i => N.n - i) 0 ?lg14b ?l114b ?l214b ?li14b ?lr14b); (case' lg14b => rintro i _); (case' li14b => try (exact ⟨Nat.zero_le _, fun i hi => absurd hi (Nat.not_lt_zero _)⟩)); (case' lr14b => rintro i ⟨hi, hai⟩ KR hR14b; skip; simp only [keepE, hupd, hset, lk, if_true, if_false, Nat.reduceEqDiff, reduceIte, List.cons_append, List.nil_append, partF0, partF1, partF2, intI]))
 | ((with_reducible refine hR14b _ (i + 1) ?_); (try clear hR14b KR))
 | ((have q1 : N.kd ≠ 2 ∧ N.kd ≠ 4 := (by omega); with_reducible refine AW_loopQ (c := (Code.seq (Code.seq (Code.region 14 _ _) _) _)) (ι := Nat) [1] (fun i => [(3, iA .i64 (i : Int))]) (fun i => []) (fun i => i ≤ N.n ∧ (∀ i', i' < i → npO N.p N.nu i')) (fun i => N.n - i) 0 ?lg14c ?l114c ?l214c ?li14c ?lr14c); (case' lg14c => rintro i _); (case' li14c => try (exact ⟨Nat.zero_le _, fun i hi => absurd hi (Nat.not_lt_zero _)⟩)); (case' lr14c => rintro i ⟨hi, hai⟩ KR hR14c; skip; simp only [keepE, hupd, hset, lk, if_true, if_false, Nat.reduceEqDiff, reduceIte, List.cons_append, List.nil_append, partF0, partF1, partF2, intI]))
 | ((with_reducible refine hR14c _ (i + 1) ?_); (try clear hR14c KR))
 | ((with_reducible refine Told.mk ?_); simp only [go_sem, reduceIte, reduceCtorEq, Nat.reduceAdd, Nat.reduceLT, Nat.reduceLeDiff, Nat.reduceEqDiff, Nat.reduceMul, Nat.reduceSub, Nat.reduceBEq, partF0, partF1, partF2, intI] <;> (first | exact True.intro | (((try simp (disch := omega) only [seaWrap, Int.natCast_add, Int.cast_ofNat_Int, and_true, true_and, and_self]); (repeat' (first | exact True.intro | omega | rfl | (with_reducible assumption) | (with_reducible refine And.intro ?_ ?_) | (exact all_succ (by assumption) (by assumption)) | ((exact all_succ (by assumption) ⟨fun h0 => by omega, by simp_all⟩)))); done)) | (refine Stuck.out ?_)))
 | ((fail_if_success (with_reducible show AW _ _ _ _)); simp (maxSteps := 2000000) only [go_sem, reduceIte, reduceCtorEq, Nat.reduceAdd, Nat.reduceLT, Nat.reduceLeDiff, Nat.reduceEqDiff, Nat.reduceMul, Nat.reduceSub, Nat.reduceBEq, Tryz.f53, of_31_0, ty_3, of_31_1, of_31_3, fnok_72, of_31_6, ty_29, le_29, of_31_2, of_31_4, of_31_5, sl_29, ar_29, ty_52, fnok_73, of_52_0, partF0, partF1, partF2, intI])
 | ((fail_if_success (with_reducible show AW _ _ _ _)); simp (disch := omega) only [seaWrap, seaDiv, seaMod])
 | ((with_reducible refine hK _ ?_); clear hK K)
 | (with_reducible apply_assumption -exfalso only [*]))
  all_goals (first | exact not_f0 (fun g => by have g1 := g.1; have g2 := g.2.1; have g3 := g.2.2; unfold termO at g2; omega) | exact not_t (by rw [notH_i]; unfold termO; omega) (by assumption) hai | exact rnot_f1 (by assumption) hc | skip)

end Go.Proofs.YtbckibbgajfihaaGreat
