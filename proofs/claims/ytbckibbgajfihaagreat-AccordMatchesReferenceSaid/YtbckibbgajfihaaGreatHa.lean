/- Ha: walks on abstract states. -/
import Derived.Test.YtbckibbgajfihaaGreatGn
set_option linter.unusedVariables false
set_option linter.unusedSimpArgs false
namespace Go.Proofs.YtbckibbgajfihaaGreat
open Go.RowKit Go.Sea
theorem ar_29 : arD Tryz.prog 29 = none := by kernel_rfl
theorem fnok_68 : fnOk Tryz.prog 68 = true := by kernel_rfl
theorem fnok_69 : fnOk Tryz.prog 69 = true := by kernel_rfl
theorem fnok_70 : fnOk Tryz.prog 70 = true := by kernel_rfl
theorem le_29 : lenD Tryz.prog 29 = some true := by kernel_rfl
theorem of_31_0 : offOf Tryz.prog 31 0 = some 0 := by kernel_rfl
theorem of_31_1 : offOf Tryz.prog 31 1 = some 1 := by kernel_rfl
theorem of_31_2 : offOf Tryz.prog 31 2 = some 2 := by kernel_rfl
theorem of_31_3 : offOf Tryz.prog 31 3 = some 3 := by kernel_rfl
theorem of_31_4 : offOf Tryz.prog 31 4 = some 4 := by kernel_rfl
theorem of_31_5 : offOf Tryz.prog 31 5 = some 5 := by kernel_rfl
theorem of_31_6 : offOf Tryz.prog 31 6 = some 6 := by kernel_rfl
theorem sl_29 : slD Tryz.prog 29 = some (3, 56, 52) := by kernel_rfl
theorem ty_29 : tyD Tryz.prog 29 = some (false, 1) := by kernel_rfl
theorem ty_31 : tyD Tryz.prog 31 = some (true, 7) := by kernel_rfl
theorem ty_52 : tyD Tryz.prog 52 = some (true, 3) := by kernel_rfl
theorem zc_52 : zeroC Tryz.prog 52 = some [.iv (.g (.int .i64 0)), .iv (.g (.slice none 0 0)), .iv (.g (.slice none 0 0))] := by kernel_rfl

theorem notH_i {n : NotS} : notH n ↔ (((1 ≤ n.oc ∧ n.oc ≤ 20) ∧ (1 ≤ n.nu ∧ n.nu ≤ 10000) ∧ (0 ≤ n.fr ∧ n.fr ≤ 10000000)) ∧ termO n ∧ n.n ≤ 20) := Iff.rfl
theorem notH_t {n : NotS} (h : (((((1 ≤ n.oc ∧ n.oc ≤ 20) ∧ 1 ≤ n.nu) ∧ n.nu ≤ 10000) ∧ 0 ≤ n.fr ∧ n.fr ≤ 10000000) ∧ termO n) ∧ (n.n : Int) ≤ 20) : notH n := ⟨⟨h.1.1.1.1.1, ⟨h.1.1.1.1.2, h.1.1.1.2⟩, h.1.1.2⟩, h.1.2, by omega⟩
theorem notH_f {n : NotS} (h : (((((n.oc < 1 ∨ n.oc > 20) ∨ n.nu < 1) ∨ n.nu > 10000) ∨ ¬ (0 ≤ n.fr ∧ n.fr ≤ 10000000)) ∨ ¬ termO n) ∨ (n.n : Int) > 20) : false = notB n := not_f0 fun g => by
  have g1 := g.1
  have g2 := g.2.1
  have g3 := g.2.2
  rcases h with (h | h) | h
  · omega
  · exact h g2
  · omega

set_option maxRecDepth 100000 in
set_option maxHeartbeats 4000000 in
theorem moment_p (t : Int) : CallsP Tryz.prog 68 [.one (.g (.int .i64 t))] (.t (.one (.g (.bool (decide (0 ≤ t ∧ t ≤ 10000000)))))) := by
  refine CallsP_of Tryz.func68 rfl (by rw [Tryz.ntmps68]; simp) ?_
  simp only [Tryz.ntmps68, List.map_cons, List.map_nil, PT.tv, argEnv, Nat.zero_add, Nat.reduceAdd]
  repeat' (first
 | ((with_reducible show AW _ _ _ _); first
 | (with_reducible refine AW_seq_k fun K hK => ?_)
 | (with_reducible refine AW_skip ?_)
 | (with_reducible refine AW_exit ?_)
 | (with_reducible refine AW_ret ?_)
 | (with_reducible refine AW_condI ?_)
 | (with_reducible refine AW_block ?_)
 | ((with_reducible show AW _ (Code.region _ _ _) _ _); first
 | (with_reducible refine AW_regionP 0 [0] ?_)
 | (with_reducible refine AW_regionP 1 [0] ?_)))
 | ((first | (with_reducible refine And.intro ?_ ?_) | (with_reducible refine Need.mk ?_)); focus (first | exact True.intro | (with_reducible assumption) | omega | (refine ⟨?_, ?_⟩ <;> omega) | (intro _; first | exact True.intro | (with_reducible assumption) | omega) | (intros; (repeat' (first | exact True.intro | omega | (with_reducible assumption) | (with_reducible refine And.intro ?_ ?_))); done) | (simp (disch := omega) only [Bool.and_eq_true, Bool.or_eq_true, decide_eq_true_eq, bne_iff_ne, ne_eq] at *; first | done | omega | (intros; omega)) | (simp; done) | (simp; omega) | (simp +contextual; done) | (intro h; rw [h]; rfl) | (intro hq; have hq2 := hq; simp only [Bool.and_eq_true, Bool.or_eq_true, Bool.not_eq_true', Bool.not_not, Bool.not_eq_false', decide_eq_true_eq, decide_eq_false_iff_not] at hq2; (repeat' (first | exact hq | (with_reducible refine And.intro ?_ ?_) | omega | (simp_all; done))); done) | (intros; simp_all; done)))
 | (with_reducible refine retK_n ?_)
 | (with_reducible refine retK_n' ?_)
 | (with_reducible refine retH_n rfl rfl rfl ?_)
 | (with_reducible refine retH_n' rfl rfl rfl ?_)
 | ((with_reducible show condN _ _ _ _ _ _); first
 | ((with_reducible refine condN_t ?_ ?_) <;> (intro hc; (try simp only [Bool.and_eq_true, Bool.or_eq_true, Bool.not_eq_true', Bool.and_eq_false_iff, Bool.or_eq_false_iff, decide_eq_true_eq, decide_eq_false_iff_not, bne_iff_ne, beq_iff_eq, reduceCtorEq, bne_eq_false_iff_eq, beq_eq_false_iff_ne, Bool.not_eq_false', Int.not_le, Int.not_lt, Bool.not_not] at hc); (skip); (try (exfalso; first | contradiction | omega)))))
 | ((fail_if_success (with_reducible show AW _ _ _ _)); simp (maxSteps := 2000000) only [go_sem, reduceIte, reduceCtorEq, Nat.reduceAdd, Nat.reduceLT, Nat.reduceLeDiff, Nat.reduceEqDiff, Nat.reduceMul, Nat.reduceSub, Nat.reduceBEq, Tryz.f68])
 | ((with_reducible refine hK _ ?_); clear hK K))
  all_goals (first | (try refine Bool.eq_iff_iff.2 ?_); (simp only [Bool.and_eq_true, Bool.or_eq_true, Bool.not_eq_true', decide_eq_true_eq, decide_eq_false_iff_not, bne_iff_ne, beq_iff_eq, ne_eq, ge_iff_le, gt_iff_lt, cond_eq_ite, iff_self, eq_self]; first | done | omega) | skip)

set_option maxRecDepth 100000 in
set_option maxHeartbeats 4000000 in
theorem term_p (n : NotS) (ho : n.Ok) : CallsP Tryz.prog 69 [.agg [.g (.int .i64 n.oc), .g (.int .i64 n.nu), .g (.int .i64 n.kd), .g (.int .i64 n.fr), .g (.int .i64 n.un), .g (.int .i64 n.ca), .lst 3 n.n (partF n.p)]] (.t (.one (.g (.bool (decide (termO n)))))) := by
  refine CallsP_of Tryz.func69 rfl (by rw [Tryz.ntmps69]; simp) ?_
  simp only [Tryz.ntmps69, List.map_cons, List.map_nil, PT.tv, argEnv, Nat.zero_add, Nat.reduceAdd]
  repeat' (first
 | ((with_reducible show AW _ _ _ _); first
 | (with_reducible refine AW_seq_k fun K hK => ?_)
 | (with_reducible refine AW_skip ?_)
 | (with_reducible refine AW_exit ?_)
 | (with_reducible refine AW_ret ?_)
 | (with_reducible refine AW_condI ?_)
 | (with_reducible refine AW_block ?_)
 | ((with_reducible show AW _ (Code.region _ _ _) _ _); first
 | (with_reducible refine AW_regionP 0 [0] ?_)
 | (with_reducible refine AW_regionP 1 [1] ?_)
 | (with_reducible refine AW_regionP 2 [1, 4] ?_)
 | (with_reducible refine AW_regionP 3 [1, 4] ?_)
 | (with_reducible refine AW_regionP 4 [1] ?_)
 | (with_reducible refine AW_regionP 5 [1, 4] ?_)
 | (with_reducible refine AW_regionP 6 [1] ?_)
 | (with_reducible refine AW_regionP 7 [1, 4] ?_)
 | (with_reducible refine AW_regionP 8 [1] ?_)
 | (with_reducible refine AW_regionP 9 [] ?_)))
 | ((first | (with_reducible refine And.intro ?_ ?_) | (with_reducible refine Need.mk ?_)); focus (first | exact True.intro | (with_reducible assumption) | omega | (refine ⟨?_, ?_⟩ <;> omega) | (intro _; first | exact True.intro | (with_reducible assumption) | omega) | (intros; (repeat' (first | exact True.intro | omega | (with_reducible assumption) | (with_reducible refine And.intro ?_ ?_))); done) | (simp (disch := omega) only [Bool.and_eq_true, Bool.or_eq_true, decide_eq_true_eq, bne_iff_ne, ne_eq] at *; first | done | omega | (intros; omega)) | (simp; done) | (simp; omega) | (simp +contextual; done) | (intro h; rw [h]; rfl) | (intro hq; have hq2 := hq; simp only [Bool.and_eq_true, Bool.or_eq_true, Bool.not_eq_true', Bool.not_not, Bool.not_eq_false', decide_eq_true_eq, decide_eq_false_iff_not] at hq2; (repeat' (first | exact hq | (with_reducible refine And.intro ?_ ?_) | omega | (simp_all; done))); done) | (intros; simp_all; done)))
 | (with_reducible refine retK_n ?_)
 | (with_reducible refine retK_n' ?_)
 | (with_reducible refine retH_n rfl rfl rfl ?_)
 | (with_reducible refine retH_n' rfl rfl rfl ?_)
 | ((with_reducible show condN _ _ _ _ _ _); first
 | ((with_reducible refine condN_t ?_ ?_) <;> (intro hc; (try simp only [Bool.and_eq_true, Bool.or_eq_true, Bool.not_eq_true', Bool.and_eq_false_iff, Bool.or_eq_false_iff, decide_eq_true_eq, decide_eq_false_iff_not, bne_iff_ne, beq_iff_eq, reduceCtorEq, bne_eq_false_iff_eq, beq_eq_false_iff_ne, Bool.not_eq_false', Int.not_le, Int.not_lt, Bool.not_not] at hc); (skip); (try (exfalso; first | contradiction | omega)))))
 | ((with_reducible show callGN _ _ _ _ _ _ _ _ _ _); first
 | (refine callGN_q (k := 68) fnok_68 (fun hg => moment_p _) ?_ ?_))
 | ((fail_if_success (with_reducible show AW _ _ _ _)); simp (maxSteps := 2000000) only [go_sem, reduceIte, reduceCtorEq, Nat.reduceAdd, Nat.reduceLT, Nat.reduceLeDiff, Nat.reduceEqDiff, Nat.reduceMul, Nat.reduceSub, Nat.reduceBEq, Tryz.f69, of_31_2, ty_3, of_31_4, of_31_5, of_31_3, fnok_68, of_31_1, of_31_6, ty_29, le_29])
 | ((with_reducible refine hK _ ?_); clear hK K))
  all_goals (first | (refine Bool.eq_iff_iff.2 ?_; simp only [Bool.and_eq_true, beq_iff_eq, decide_eq_true_eq, reduceCtorEq, false_iff]; unfold termO; omega) | skip)

set_option maxRecDepth 100000 in
set_option maxHeartbeats 4000000 in
theorem Not_p (n : NotS) (ho : n.Ok) : CallsP Tryz.prog 49 [.agg [.g (.int .i64 n.oc), .g (.int .i64 n.nu), .g (.int .i64 n.kd), .g (.int .i64 n.fr), .g (.int .i64 n.un), .g (.int .i64 n.ca), .lst 3 n.n (partF n.p)]] (.t (.one (.g (.bool (notB n))))) := by
  have hnn := ho.n
  refine CallsP_of Tryz.func49 rfl (by rw [Tryz.ntmps49]; simp) ?_
  simp only [Tryz.ntmps49, List.map_cons, List.map_nil, PT.tv, argEnv, Nat.zero_add, Nat.reduceAdd]
  repeat' (first
 | ((with_reducible show AW _ _ _ _); first
 | (with_reducible refine AW_seq_k fun K hK => ?_)
 | (with_reducible refine AW_skip ?_)
 | (with_reducible refine AW_exit ?_)
 | (with_reducible refine AW_ret ?_)
 | (with_reducible refine AW_condI ?_)
 | (with_reducible refine AW_block ?_)
 | ((with_reducible show AW _ (Code.region _ _ _) _ _); first
 | (with_reducible refine AW_regionP 0 [0] ?_)
 | (with_reducible refine AW_regionP 1 [1] ?_)
 | (with_reducible refine AW_regionP 2 [] ?_)
 | (with_reducible refine AW_regionP 3 [1] ?_)
 | (with_reducible refine AW_regionP 4 [1, 3] ?_)
 | (with_reducible refine AW_regionP 5 [1, 3, 42, 43, 44] ?_)
 | (with_reducible refine AW_regionP 6 [1, 3, 42, 43, 44] ?_)
 | (with_reducible refine AW_regionP 7 [1, 3, 5, 42, 43, 44] ?_)
 | (with_reducible refine AW_regionP 8 [] ?_)
 | (with_reducible refine AW_regionP 9 [1, 5, 42, 43, 44] ?_)
 | (with_reducible refine AW_regionP 10 [1, 3, 42, 43, 44] ?_)
 | (with_reducible refine AW_regionP 11 [] ?_))
 | ((with_reducible show AW _ (Code.loop _) _ _); first
 | ((with_reducible refine AW_loopQ (c := (Code.seq (Code.region 5 _ _) _)) (ι := Nat) [1, 42, 43] (fun i => [(3, iA .i64 (lstH n.p i)), (44, iA .i64 (i : Int))]) (fun i => []) (fun i => i ≤ n.n ∧ (∀ i', i' < i → npO n.p n.nu i')) (fun i => n.n - i) 0 ?lg5 ?l15 ?l25 ?li5 ?lr5); (case' lg5 => rintro i _); (case' li5 => try (exact ⟨Nat.zero_le _, fun i hi => absurd hi (Nat.not_lt_zero _)⟩)); (case' lr5 => rintro i ⟨hi, hai⟩ KR hR5; skip; simp only [keepE, hupd, hset, lk, if_true, if_false, Nat.reduceEqDiff, reduceIte, List.cons_append, List.nil_append, partF0, partF1, partF2, intI, lstH_s]))))
 | ((first | (with_reducible refine And.intro ?_ ?_) | (with_reducible refine Need.mk ?_)); focus (first | exact True.intro | (with_reducible assumption) | omega | (refine ⟨?_, ?_⟩ <;> omega) | (intro _; first | exact True.intro | (with_reducible assumption) | omega) | (intros; (repeat' (first | exact True.intro | omega | (with_reducible assumption) | (with_reducible refine And.intro ?_ ?_))); done) | (simp (disch := omega) only [Bool.and_eq_true, Bool.or_eq_true, decide_eq_true_eq, bne_iff_ne, ne_eq] at *; first | done | omega | (intros; omega)) | (simp; done) | (simp; omega) | (simp +contextual; done) | (intro h; rw [h]; rfl) | (intro hq; have hq2 := hq; simp only [Bool.and_eq_true, Bool.or_eq_true, Bool.not_eq_true', Bool.not_not, Bool.not_eq_false', decide_eq_true_eq, decide_eq_false_iff_not] at hq2; (repeat' (first | exact hq | (with_reducible refine And.intro ?_ ?_) | omega | (simp_all; done))); done) | (intros; simp_all; done)))
 | (with_reducible refine retK_n ?_)
 | (with_reducible refine retK_n' ?_)
 | (with_reducible refine retH_n rfl rfl rfl ?_)
 | (with_reducible refine retH_n' rfl rfl rfl ?_)
 | ((with_reducible show condN _ _ _ _ _ _); first
 | ((with_reducible refine condN_t ?_ ?_) <;> (intro hc; (try simp only [Bool.and_eq_true, Bool.or_eq_true, Bool.not_eq_true', Bool.and_eq_false_iff, Bool.or_eq_false_iff, decide_eq_true_eq, decide_eq_false_iff_not, bne_iff_ne, beq_iff_eq, reduceCtorEq, bne_eq_false_iff_eq, beq_eq_false_iff_ne, Bool.not_eq_false', Int.not_le, Int.not_lt, Bool.not_not] at hc); (skip); (try (exfalso; first | contradiction | omega)))))
 | ((with_reducible show callGN _ _ _ _ _ _ _ _ _ _); first
 | (refine callGN_q (k := 68) fnok_68 (fun hg => moment_p _) ?_ ?_)
 | (refine callGN_q (k := 69) fnok_69 (fun hg => term_p n ho) ?_ ?_)
 | (refine callGN_q (k := 70) fnok_70 (fun hg => part_p (n.p i) n.nu (ho.p i (by omega))) ?_ ?_))
 | ((with_reducible refine hR5 _ (i + 1) ?_); (try clear hR5 KR))
 | ((with_reducible refine Told.mk ?_); simp only [go_sem, reduceIte, reduceCtorEq, Nat.reduceAdd, Nat.reduceLT, Nat.reduceLeDiff, Nat.reduceEqDiff, Nat.reduceMul, Nat.reduceSub, Nat.reduceBEq, partF0, partF1, partF2, intI, lstH_s] <;> (first | exact True.intro | (((try simp (disch := omega) only [seaWrap, Int.natCast_add, Int.cast_ofNat_Int, and_true, true_and, and_self]); (repeat' (first | exact True.intro | omega | rfl | (with_reducible assumption) | (with_reducible refine And.intro ?_ ?_) | (exact all_succ (by assumption) (by assumption)) | ((exact all_succ (by assumption) (np_t hc.1 hc.2))))); done)) | (refine Stuck.out ?_)))
 | ((fail_if_success (with_reducible show AW _ _ _ _)); simp (maxSteps := 2000000) only [go_sem, reduceIte, reduceCtorEq, Nat.reduceAdd, Nat.reduceLT, Nat.reduceLeDiff, Nat.reduceEqDiff, Nat.reduceMul, Nat.reduceSub, Nat.reduceBEq, Tryz.f49, of_31_0, ty_3, of_31_1, of_31_3, fnok_68, ty_31, fnok_69, of_31_6, ty_29, le_29, sl_29, ar_29, ty_52, zc_52, of_52_0, fnok_70, partF0, partF1, partF2, intI, lstH_s])
 | ((fail_if_success (with_reducible show AW _ _ _ _)); simp (disch := omega) only [seaWrap, seaDiv, seaMod])
 | ((with_reducible refine hK _ ?_); clear hK K)
 | (with_reducible apply_assumption -exfalso only [*]))
  all_goals (first | exact notH_f hc | exact not_f1 (by assumption) hc | exact not_t (notH_t (by assumption)) (by assumption) hai | skip)

end Go.Proofs.YtbckibbgajfihaaGreat
