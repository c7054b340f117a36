/- Ib: walks on abstract states. -/
import Derived.Test.YtbckibbgajfihaaGreatIa
set_option linter.unusedVariables false
set_option linter.unusedSimpArgs false
namespace Go.Proofs.YtbckibbgajfihaaGreat
open Go.RowKit Go.Sea
theorem ar_95 : arD Tryz.prog 95 = none := by kernel_rfl
theorem fnok_32 : fnOk Tryz.prog 32 = true := by kernel_rfl
theorem fnok_33 : fnOk Tryz.prog 33 = true := by kernel_rfl
theorem fnok_66 : fnOk Tryz.prog 66 = true := by kernel_rfl
theorem fnok_8 : fnOk Tryz.prog 8 = true := by kernel_rfl
theorem le_95 : lenD Tryz.prog 95 = some true := by kernel_rfl
theorem sl_95 : slD Tryz.prog 95 = some (2, 16, 63) := by kernel_rfl

theorem rcl_f {sh : Nat → Nat → Int} {i j : Nat} (hi : soundB (sh i 0) (sh i 1) (sh i 2) (sh i 3) (sh i 4) = true) (hj : soundB (sh j 0) (sh j 1) (sh j 2) (sh j 3) (sh j 4) = true) (h : insR (sh i 1) (sh i 2) (sh i 3) (sh i 4) (sh j 1) (sh j 2) (sh j 3) (sh j 4) = false ∨ sh i 0 = sh j 0) : clB sh i j = false := by
  refine cl_f ?_
  rcases h with h | h
  · right; rw [ins_r (sound_v hi) (sound_v hj)]; exact h
  · left; exact h
theorem rcl_t {sh : Nat → Nat → Int} {i j : Nat} (hi : soundB (sh i 0) (sh i 1) (sh i 2) (sh i 3) (sh i 4) = true) (hj : soundB (sh j 0) (sh j 1) (sh j 2) (sh j 3) (sh j 4) = true) (h : insR (sh i 1) (sh i 2) (sh i 3) (sh i 4) (sh j 1) (sh j 2) (sh j 3) (sh j 4) = true ∧ sh i 0 ≠ sh j 0) : sh i 0 ≠ sh j 0 ∧ insB (sh i 1) (sh i 2) (sh i 3) (sh i 4) (sh j 1) (sh j 2) (sh j 3) (sh j 4) = true := by
  rw [ins_r (sound_v hi) (sound_v hj)]; exact ⟨h.2, h.1⟩
theorem lastS_p (sg : Nat → Int) {k : Nat} (h : 0 < k) : lastS sg k = sg (k - 1) := by
  obtain ⟨j, rfl⟩ : ∃ j, k = j + 1 := ⟨k - 1, by omega⟩
  rfl
theorem rsg_t {sg : Nat → Int} {k : Nat} (h1 : offB (sg k) = true) (h2 : (k : Int) ≤ 0 ∨ sg (k - 1) < sg k) : sgO sg k := by
  have h1 := of_decide_eq_true h1
  refine ⟨?_, h1.2⟩
  by_cases hk : k = 0
  · subst hk; simp only [lastS]; omega
  · rw [lastS_p sg (by omega)]; omega
theorem sg_nn {sg : Nat → Int} : ∀ k, (∀ k', k' < k → sgO sg k') → 0 ≤ lastS sg k
  | 0, _ => Int.le_refl 0
  | k + 1, h => by
    have h1 := sg_nn k fun k' hk => h k' (by omega)
    have h2 := (h k (by omega)).1
    simp only [lastS]; omega
theorem rsg_f {sg : Nat → Int} {k : Nat} (g : ∀ k', k' < k → sgO sg k') (h : offB (sg k) = false ∨ (k : Int) > 0 ∧ sg k ≤ sg (k - 1)) : sg k ≤ lastS sg k ∨ 20 < sg k := by
  rcases h with h | h
  · have h1 := of_decide_eq_false h
    have := sg_nn k g
    omega
  · rw [lastS_p sg (by omega)]; omega
def crdL (g : Nat → Nat → Int) : Nat → List Int
  | 0 => []
  | k + 1 => crdL g k ++ [g k 0, g k 0 + 1, g k 1, min 1000000 (g k 1 + 1)]
theorem crdL_0 (g : Nat → Nat → Int) : crdL g 0 = [] := rfl
theorem crdL_s (g : Nat → Nat → Int) (k : Nat) : crdL g (k + 1) = crdL g k ++ [g k 0, g k 0 + 1, g k 1, min 1000000 (g k 1 + 1)] := rfl
theorem crdL_len (g : Nat → Nat → Int) : ∀ k, (crdL g k).length = 4 * k
  | 0 => rfl
  | k + 1 => by simp only [crdL, List.length_append, crdL_len g k, List.length_cons, List.length_nil]; omega
theorem rowI_four (zs : List Int) (a b c d : Int) (i : Nat) : List.map (CV.purge i) (rowI zs ++ [.iv (.g (.int .i64 a)), .iv (.g (.int .i64 b)), .iv (.g (.int .i64 c)), .iv (.g (.int .i64 d))]) = rowI (zs ++ [a, b, c, d]) := by
  rw [rowI_app]
  exact purge_iv i fun c' hc => by
    rw [← show rowI [a, b, c, d] = [.iv (.g (.int .i64 a)), .iv (.g (.int .i64 b)), .iv (.g (.int .i64 c)), .iv (.g (.int .i64 d))] from rfl, ← rowI_app] at hc
    exact rowI_iv _ c' hc
set_option maxRecDepth 100000 in
set_option maxHeartbeats 16000000 in
theorem rvalid_p (a : Acc) (ha : a.m ≤ 9223372036854775807) (hq : a.q ≤ 9223372036854775807) : CallsP Tryz.prog 8 [accP a] (.t (.one (.g (.bool (valB a))))) := by
  refine CallsP_of Tryz.func8 rfl (by rw [Tryz.ntmps8]; simp) ?_
  simp only [Tryz.ntmps8, List.map_cons, List.map_nil, PT.tv, argEnv, Nat.zero_add, Nat.reduceAdd]
  repeat' (first
 | ((with_reducible show AW _ _ _ _); first
 | (with_reducible refine AW_seq_k fun K hK => ?_)
 | (with_reducible refine AW_skip ?_)
 | (with_reducible refine AW_exit ?_)
 | (with_reducible refine AW_ret ?_)
 | (with_reducible refine AW_condI ?_)
 | (with_reducible refine AW_block ?_)
 | ((with_reducible show AW _ (Code.region _ _ _) _ _); first
 | (with_reducible refine AW_regionP 0 [0] ?_)
 | (with_reducible refine AW_regionP 1 [1] ?_)
 | (with_reducible refine AW_regionP 2 [] ?_)
 | (with_reducible refine AW_regionP 3 [1] ?_)
 | (with_reducible refine AW_regionP 4 [1, 3] ?_)
 | (with_reducible refine AW_regionP 5 [1, 3] ?_)
 | (with_reducible refine AW_regionP 6 [1, 3] ?_)
 | (with_reducible refine AW_regionP 7 [1, 3, 4] ?_)
 | (with_reducible refine AW_regionP 8 [] ?_)
 | (with_reducible refine AW_regionP 9 [1, 3] ?_)
 | (with_reducible refine AW_regionP 10 [1, 3, 5] ?_)
 | (with_reducible refine AW_regionP 11 [1, 3, 5] ?_)
 | ((with_reducible refine AW_prune (c := Code.region 12 _ true) [1, 3, 5] ?_); (with_reducible refine AW_regionD ?_ ?_ ?_ ?_); (focus kernel_rfl); (focus kernel_rfl); (focus kernel_rfl))
 | ((with_reducible refine AW_prune (c := Code.region 13 _ true) [1, 3, 5, 6] ?_); (with_reducible refine AW_regionD ?_ ?_ ?_ ?_); (focus kernel_rfl); (focus kernel_rfl); (focus kernel_rfl))
 | (with_reducible refine AW_regionP 14 [] ?_)
 | (with_reducible refine AW_regionP 15 [1] ?_)
 | (with_reducible refine AW_regionP 16 [1, 7] ?_)
 | (with_reducible refine AW_regionP 17 [1, 7] ?_)
 | (with_reducible refine AW_regionP 18 [1, 7] ?_)
 | ((with_reducible refine AW_prune (c := Code.region 19 _ true) [1, 7, 8] ?_); (with_reducible refine AW_regionD ?_ ?_ ?_ ?_); (focus kernel_rfl); (focus kernel_rfl); (focus kernel_rfl))
 | (with_reducible refine AW_regionP 20 [] ?_)
 | (with_reducible refine AW_regionP 21 [] ?_))
 | ((with_reducible show AW _ (Code.loop _) _ _); first
 | ((with_reducible refine AW_loopQ (c := (Code.seq (Code.seq (Code.region 4 _ _) _) _)) (ι := Nat) [1] (fun i => [(3, iA .i64 (i : Int))]) (fun i => []) (fun i => i ≤ a.m ∧ (∀ i', i' < i → shO a.sh i')) (fun i => a.m - i) 0 ?lg4 ?l14 ?l24 ?li4 ?lr4); (case' lg4 => rintro i _); (case' li4 => try (exact ⟨Nat.zero_le _, fun i hi => absurd hi (Nat.not_lt_zero _)⟩)); (case' lr4 => rintro i ⟨h1, h2⟩ KR hR4; skip; simp only [keepE, hupd, hset, lk, if_true, if_false, Nat.reduceEqDiff, reduceIte, List.cons_append, List.nil_append, cellI, intI, accF0, accF1, accF2, accF3]))
 | ((with_reducible refine AW_loopQ (c := (Code.seq (Code.seq (Code.region 10 _ _) _) _)) (ι := Nat) [1, 3] (fun j => [(5, iA .i64 (j : Int))]) (fun j => []) (fun j => j ≤ i ∧ soundB (a.sh i 0) (a.sh i 1) (a.sh i 2) (a.sh i 3) (a.sh i 4) = true ∧ (∀ j', j' < j → clB a.sh i j' = false)) (fun j => i - j) 0 ?lg10 ?l110 ?l210 ?li10 ?lr10); (case' lg10 => rintro j _); (case' li10 => try (exact ⟨Nat.zero_le _, by assumption, fun i hi => absurd hi (Nat.not_lt_zero _)⟩)); (case' lr10 => rintro j ⟨hj, hsi, haj⟩ KR hR10; skip; simp only [keepE, hupd, hset, lk, if_true, if_false, Nat.reduceEqDiff, reduceIte, List.cons_append, List.nil_append, cellI, intI, accF0, accF1, accF2, accF3]))
 | ((with_reducible refine AW_loopQ (c := (Code.seq (Code.seq (Code.region 16 _ _) _) _)) (ι := Nat) [1] (fun k => [(7, iA .i64 (k : Int))]) (fun k => []) (fun k => k ≤ a.q ∧ (∀ k', k' < k → sgO a.sg k')) (fun k => a.q - k) 0 ?lg16 ?l116 ?l216 ?li16 ?lr16); (case' lg16 => rintro k _); (case' li16 => try (exact ⟨Nat.zero_le _, fun i hi => absurd hi (Nat.not_lt_zero _)⟩)); (case' lr16 => rintro k ⟨f1, f2⟩ KR hR16; skip; simp only [keepE, hupd, hset, lk, if_true, if_false, Nat.reduceEqDiff, reduceIte, List.cons_append, List.nil_append, cellI, intI, accF0, accF1, accF2, accF3]))))
 | ((first | (with_reducible refine And.intro ?_ ?_) | (with_reducible refine Need.mk ?_)); focus (first | exact True.intro | (with_reducible assumption) | omega | (refine ⟨?_, ?_⟩ <;> omega) | (intro _; first | exact True.intro | (with_reducible assumption) | omega) | (intros; (repeat' (first | exact True.intro | omega | (with_reducible assumption) | (with_reducible refine And.intro ?_ ?_))); done) | (simp (disch := omega) only [Bool.and_eq_true, Bool.or_eq_true, decide_eq_true_eq, bne_iff_ne, ne_eq] at *; first | done | omega | (intros; omega)) | (simp; done) | (simp; omega) | (simp +contextual; done) | (intro h; rw [h]; rfl) | (intro hq; have hq2 := hq; simp only [Bool.and_eq_true, Bool.or_eq_true, Bool.not_eq_true', Bool.not_not, Bool.not_eq_false', decide_eq_true_eq, decide_eq_false_iff_not] at hq2; (repeat' (first | exact hq | (with_reducible refine And.intro ?_ ?_) | omega | (simp_all; done))); done) | (intros; simp_all; done)))
 | (with_reducible refine retK_n ?_)
 | (with_reducible refine retK_n' ?_)
 | (with_reducible refine retH_n rfl rfl rfl ?_)
 | (with_reducible refine retH_n' rfl rfl rfl ?_)
 | ((with_reducible show condN _ _ _ _ _ _); first
 | ((with_reducible refine condN_t ?_ ?_) <;> (intro hc; (try simp only [Bool.and_eq_true, Bool.or_eq_true, Bool.not_eq_true', Bool.and_eq_false_iff, Bool.or_eq_false_iff, decide_eq_true_eq, decide_eq_false_iff_not, bne_iff_ne, beq_iff_eq, reduceCtorEq, bne_eq_false_iff_eq, beq_eq_false_iff_ne, Bool.not_eq_false', Int.not_le, Int.not_lt, Bool.not_not] at hc); (skip); (try (exfalso; first | contradiction | omega)))))
 | ((with_reducible refine And.intro ?_ ?_); focus ((with_reducible show chkR _ _ _ = true); kernel_rfl))
 | ((with_reducible show callN _ _ _ _ _ _ _ _ _ _); first
 | (refine callN_q (k := 32) fnok_32 (rshare_p _ _ _ _ _) ?_ ?_)
 | (refine callN_q (k := 34) fnok_34 (roff_p _) ?_ ?_))
 | ((with_reducible show callDN _ _ _ _ _ _ _ _ _ _ _ _ _); first
 | (refine callDN_q (k := 33) fnok_33 (rins_p _ _ _ _ _ _ _ _) ?_ ?_))
 | ((with_reducible refine hR4 _ (i + 1) ?_); (try clear hR4 KR))
 | ((with_reducible refine hR10 _ (j + 1) ?_); (try clear hR10 KR))
 | ((with_reducible refine hR16 _ (k + 1) ?_); (try clear hR16 KR))
 | ((with_reducible refine Told.mk ?_); simp only [go_sem, reduceIte, reduceCtorEq, Nat.reduceAdd, Nat.reduceLT, Nat.reduceLeDiff, Nat.reduceEqDiff, Nat.reduceMul, Nat.reduceSub, Nat.reduceBEq, cellI, intI, accF0, accF1, accF2, accF3] <;> (first | exact True.intro | (((try simp (disch := omega) only [seaWrap, Int.natCast_add, Int.cast_ofNat_Int, and_true, true_and, and_self]); (repeat' (first | exact True.intro | omega | rfl | (with_reducible assumption) | (with_reducible refine And.intro ?_ ?_) | (exact all_succ (by assumption) (by assumption)) | ((exact all_succ (by assumption) ⟨by assumption, fun j hj => haj j (by omega)⟩)))); done)) | (((try simp (disch := omega) only [seaWrap, Int.natCast_add, Int.cast_ofNat_Int, and_true, true_and, and_self]); (repeat' (first | exact True.intro | omega | rfl | (with_reducible assumption) | (with_reducible refine And.intro ?_ ?_) | (exact all_succ (by assumption) (by assumption)) | ((exact all_succ (by assumption) (rcl_f hsi (h2 j (by omega)).1 hc))))); done)) | (((try simp (disch := omega) only [seaWrap, Int.natCast_add, Int.cast_ofNat_Int, and_true, true_and, and_self]); (repeat' (first | exact True.intro | omega | rfl | (with_reducible assumption) | (with_reducible refine And.intro ?_ ?_) | (exact all_succ (by assumption) (by assumption)) | ((exact all_succ (by assumption) (rsg_t hc.1 hc.2))))); done)) | (refine Stuck.out ?_)))
 | ((fail_if_success (with_reducible show AW _ _ _ _)); simp (maxSteps := 2000000) only [go_sem, reduceIte, reduceCtorEq, Nat.reduceAdd, Nat.reduceLT, Nat.reduceLeDiff, Nat.reduceEqDiff, Nat.reduceMul, Nat.reduceSub, Nat.reduceBEq, Tryz.f8, of_26_0, ty_3, of_26_1, of_26_2, ty_23, le_23, sl_23, ar_23, ty_67, fnok_32, of_67_1, ty_65, fnok_33, of_67_0, of_26_3, ty_24, le_24, sl_24, ar_24, fnok_34, cellI, intI, accF0, accF1, accF2, accF3])
 | ((fail_if_success (with_reducible show AW _ _ _ _)); simp (disch := omega) only [seaWrap, seaDiv, seaMod])
 | ((with_reducible refine hK _ ?_); clear hK K)
 | (with_reducible apply_assumption -exfalso only [*]))
  all_goals (first
    | (refine Eq.symm ?_; exact val_1 (by omega))
    | (refine Eq.symm ?_; exact val_2 (i := i) (by assumption) (by assumption))
    | (refine Eq.symm ?_; exact val_3 (i := i) (j := j) (by assumption) (by omega) (rcl_t hsi (h2 j (by omega)).1 hc))
    | (refine Eq.symm ?_; exact val_4 (k := k) (by assumption) (rsg_f f2 hc))
    | (refine Eq.symm ?_; exact val_5 (i := i) (k := k) (by assumption) (by assumption) h2 (by assumption) f2)
    | skip)

set_option maxRecDepth 100000 in
set_option maxHeartbeats 4000000 in
theorem rempty_p (a : Acc) (ha : a.m ≤ 9223372036854775807) (hq : a.q ≤ 9223372036854775807) : CallsP Tryz.prog 66 [accP a] (.t (.one (.g (.bool (decide (a.ver = 0 ∧ a.frm = 0 ∧ a.m = 0 ∧ a.q = 0)))))) := by
  refine CallsP_of Tryz.func66 rfl (by rw [Tryz.ntmps66]; simp) ?_
  simp only [Tryz.ntmps66, List.map_cons, List.map_nil, PT.tv, argEnv, Nat.zero_add, Nat.reduceAdd]
  repeat' (first
 | ((with_reducible show AW _ _ _ _); first
 | (with_reducible refine AW_seq_k fun K hK => ?_)
 | (with_reducible refine AW_skip ?_)
 | (with_reducible refine AW_exit ?_)
 | (with_reducible refine AW_ret ?_)
 | (with_reducible refine AW_condI ?_)
 | (with_reducible refine AW_block ?_)
 | ((with_reducible show AW _ (Code.region _ _ _) _ _); first
 | (with_reducible refine AW_regionP 0 [0] ?_)
 | (with_reducible refine AW_regionP 1 [1] ?_)))
 | ((first | (with_reducible refine And.intro ?_ ?_) | (with_reducible refine Need.mk ?_)); focus (first | exact True.intro | (with_reducible assumption) | omega | (refine ⟨?_, ?_⟩ <;> omega) | (intro _; first | exact True.intro | (with_reducible assumption) | omega) | (intros; (repeat' (first | exact True.intro | omega | (with_reducible assumption) | (with_reducible refine And.intro ?_ ?_))); done) | (simp (disch := omega) only [Bool.and_eq_true, Bool.or_eq_true, decide_eq_true_eq, bne_iff_ne, ne_eq] at *; first | done | omega | (intros; omega)) | (simp; done) | (simp; omega) | (simp +contextual; done) | (intro h; rw [h]; rfl) | (intro hq; have hq2 := hq; simp only [Bool.and_eq_true, Bool.or_eq_true, Bool.not_eq_true', Bool.not_not, Bool.not_eq_false', decide_eq_true_eq, decide_eq_false_iff_not] at hq2; (repeat' (first | exact hq | (with_reducible refine And.intro ?_ ?_) | omega | (simp_all; done))); done) | (intros; simp_all; done)))
 | (with_reducible refine retK_n ?_)
 | (with_reducible refine retK_n' ?_)
 | (with_reducible refine retH_n rfl rfl rfl ?_)
 | (with_reducible refine retH_n' rfl rfl rfl ?_)
 | ((with_reducible show condN _ _ _ _ _ _); first
 | ((with_reducible refine condN_t ?_ ?_) <;> (intro hc; (try simp only [Bool.and_eq_true, Bool.or_eq_true, Bool.not_eq_true', Bool.and_eq_false_iff, Bool.or_eq_false_iff, decide_eq_true_eq, decide_eq_false_iff_not, bne_iff_ne, beq_iff_eq, reduceCtorEq, bne_eq_false_iff_eq, beq_eq_false_iff_ne, Bool.not_eq_false', Int.not_le, Int.not_lt, Bool.not_not] at hc); (skip); (try (exfalso; first | contradiction | omega)))))
 | ((fail_if_success (with_reducible show AW _ _ _ _)); simp (maxSteps := 2000000) only [go_sem, reduceIte, reduceCtorEq, Nat.reduceAdd, Nat.reduceLT, Nat.reduceLeDiff, Nat.reduceEqDiff, Nat.reduceMul, Nat.reduceSub, Nat.reduceBEq, Tryz.f66, of_26_0, ty_3, of_26_1, of_26_2, ty_23, le_23, of_26_3, ty_24, le_24, cellI, intI, accF0, accF1, accF2, accF3])
 | ((with_reducible refine hK _ ?_); clear hK K))
  all_goals (refine Bool.eq_iff_iff.2 ?_; simp only [Bool.and_eq_true, beq_iff_eq, decide_eq_true_eq]; omega)

set_option maxRecDepth 100000 in
set_option maxHeartbeats 4000000 in
theorem rtwo_p (a b : Acc) (ha : a.m ≤ 9223372036854775807) (hq : a.q ≤ 9223372036854775807) (hb : b.m ≤ 9223372036854775807) (hr : b.q ≤ 9223372036854775807) : CallsP Tryz.prog 46 [accP a, accP b] (.t (.one (.g (.bool (cmpB a b))))) := by
  refine CallsP_of Tryz.func46 rfl (by rw [Tryz.ntmps46]; simp) ?_
  simp only [Tryz.ntmps46, List.map_cons, List.map_nil, PT.tv, argEnv, Nat.zero_add, Nat.reduceAdd]
  repeat' (first
 | ((with_reducible show AW _ _ _ _); first
 | (with_reducible refine AW_seq_k fun K hK => ?_)
 | (with_reducible refine AW_skip ?_)
 | (with_reducible refine AW_exit ?_)
 | (with_reducible refine AW_ret ?_)
 | (with_reducible refine AW_condI ?_)
 | (with_reducible refine AW_block ?_)
 | ((with_reducible show AW _ (Code.region _ _ _) _ _); first
 | (with_reducible refine AW_regionP 0 [0, 1] ?_)
 | (with_reducible refine AW_regionP 1 [2, 3] ?_)
 | (with_reducible refine AW_regionP 2 [2, 3, 5] ?_)
 | (with_reducible refine AW_regionP 3 [3, 5, 6] ?_)
 | (with_reducible refine AW_regionP 4 [5, 6, 7] ?_)))
 | ((first | (with_reducible refine And.intro ?_ ?_) | (with_reducible refine Need.mk ?_)); focus (first | exact True.intro | (with_reducible assumption) | omega | (refine ⟨?_, ?_⟩ <;> omega) | (intro _; first | exact True.intro | (with_reducible assumption) | omega) | (intros; (repeat' (first | exact True.intro | omega | (with_reducible assumption) | (with_reducible refine And.intro ?_ ?_))); done) | (simp (disch := omega) only [Bool.and_eq_true, Bool.or_eq_true, decide_eq_true_eq, bne_iff_ne, ne_eq] at *; first | done | omega | (intros; omega)) | (simp; done) | (simp; omega) | (simp +contextual; done) | (intro h; rw [h]; rfl) | (intro hq; have hq2 := hq; simp only [Bool.and_eq_true, Bool.or_eq_true, Bool.not_eq_true', Bool.not_not, Bool.not_eq_false', decide_eq_true_eq, decide_eq_false_iff_not] at hq2; (repeat' (first | exact hq | (with_reducible refine And.intro ?_ ?_) | omega | (simp_all; done))); done) | (intros; simp_all; done)))
 | (with_reducible refine retK_n ?_)
 | (with_reducible refine retK_n' ?_)
 | (with_reducible refine retH_n rfl rfl rfl ?_)
 | (with_reducible refine retH_n' rfl rfl rfl ?_)
 | ((with_reducible show condN _ _ _ _ _ _); first
 | ((with_reducible refine condN_t ?_ ?_) <;> (intro hc; (try simp only [Bool.and_eq_true, Bool.or_eq_true, Bool.not_eq_true', Bool.and_eq_false_iff, Bool.or_eq_false_iff, decide_eq_true_eq, decide_eq_false_iff_not, bne_iff_ne, beq_iff_eq, reduceCtorEq, bne_eq_false_iff_eq, beq_eq_false_iff_ne, Bool.not_eq_false', Int.not_le, Int.not_lt, Bool.not_not] at hc); (skip); (try (exfalso; first | contradiction | omega)))))
 | ((with_reducible show callN _ _ _ _ _ _ _ _ _ _); first
 | (refine callN_q (k := 8) fnok_8 (rvalid_p a ha hq) ?_ ?_)
 | (refine callN_q (k := 8) fnok_8 (rvalid_p b hb hr) ?_ ?_)
 | (refine callN_q (k := 66) fnok_66 (rempty_p a ha hq) ?_ ?_))
 | ((fail_if_success (with_reducible show AW _ _ _ _)); simp (maxSteps := 2000000) only [go_sem, reduceIte, reduceCtorEq, Nat.reduceAdd, Nat.reduceLT, Nat.reduceLeDiff, Nat.reduceEqDiff, Nat.reduceMul, Nat.reduceSub, Nat.reduceBEq, Tryz.f46, ty_26, fnok_8, fnok_66, cellI, intI, accF0, accF1, accF2, accF3])
 | ((with_reducible refine hK _ ?_); clear hK K))
  all_goals (unfold cmpB; rw [Bool.or_comm (valB a)])

set_option maxRecDepth 100000 in
set_option maxHeartbeats 4000000 in
theorem rhasl_p (n : Nat) (s : Nat → Int) (x : Int) (hn : n ≤ 9223372036854775807) : CallsP Tryz.prog 61 [.one (.lst 1 n (intI s)), .one (.g (.int .i64 (x)))] (.t (.one (.g (.bool (hasL n s x))))) := by
  refine CallsP_of Tryz.func61 rfl (by rw [Tryz.ntmps61]; simp) ?_
  simp only [Tryz.ntmps61, List.map_cons, List.map_nil, PT.tv, argEnv, Nat.zero_add, Nat.reduceAdd]
  repeat' (first
 | ((with_reducible show AW _ _ _ _); first
 | (with_reducible refine AW_seq_k fun K hK => ?_)
 | (with_reducible refine AW_skip ?_)
 | (with_reducible refine AW_exit ?_)
 | (with_reducible refine AW_ret ?_)
 | (with_reducible refine AW_condI ?_)
 | (with_reducible refine AW_block ?_)
 | ((with_reducible show AW _ (Code.region _ _ _) _ _); first
 | (with_reducible refine AW_regionP 0 [0, 1] ?_)
 | (with_reducible refine AW_regionP 1 [0, 1] ?_)
 | (with_reducible refine AW_regionP 2 [0, 1, 5] ?_)
 | (with_reducible refine AW_regionP 3 [0, 1, 5] ?_)
 | (with_reducible refine AW_regionP 4 [0, 1, 5] ?_)
 | (with_reducible refine AW_regionP 5 [] ?_)
 | (with_reducible refine AW_regionP 6 [] ?_))
 | ((with_reducible show AW _ (Code.loop _) _ _); first
 | ((with_reducible refine AW_loopQ (c := (Code.seq (Code.seq (Code.region 2 _ _) _) _)) (ι := Nat) [0, 1] (fun k => [(5, iA .i64 (k : Int))]) (fun k => []) (fun k => k ≤ n ∧ (∀ i, i < k → s i ≠ x)) (fun k => n - k) 0 ?lg2 ?l12 ?l22 ?li2 ?lr2); (case' lg2 => rintro k _); (case' li2 => try (exact ⟨Nat.zero_le _, fun i hi => absurd hi (Nat.not_lt_zero _)⟩)); (case' lr2 => rintro k ⟨h1, h2⟩ KR hR2; skip; simp only [keepE, hupd, hset, lk, if_true, if_false, Nat.reduceEqDiff, reduceIte, List.cons_append, List.nil_append, cellI, intI, accF0, accF1, accF2, accF3]))))
 | ((first | (with_reducible refine And.intro ?_ ?_) | (with_reducible refine Need.mk ?_)); focus (first | exact True.intro | (with_reducible assumption) | omega | (refine ⟨?_, ?_⟩ <;> omega) | (intro _; first | exact True.intro | (with_reducible assumption) | omega) | (intros; (repeat' (first | exact True.intro | omega | (with_reducible assumption) | (with_reducible refine And.intro ?_ ?_))); done) | (simp (disch := omega) only [Bool.and_eq_true, Bool.or_eq_true, decide_eq_true_eq, bne_iff_ne, ne_eq] at *; first | done | omega | (intros; omega)) | (simp; done) | (simp; omega) | (simp +contextual; done) | (intro h; rw [h]; rfl) | (intro hq; have hq2 := hq; simp only [Bool.and_eq_true, Bool.or_eq_true, Bool.not_eq_true', Bool.not_not, Bool.not_eq_false', decide_eq_true_eq, decide_eq_false_iff_not] at hq2; (repeat' (first | exact hq | (with_reducible refine And.intro ?_ ?_) | omega | (simp_all; done))); done) | (intros; simp_all; done)))
 | (with_reducible refine retK_n ?_)
 | (with_reducible refine retK_n' ?_)
 | (with_reducible refine retH_n rfl rfl rfl ?_)
 | (with_reducible refine retH_n' rfl rfl rfl ?_)
 | ((with_reducible show condN _ _ _ _ _ _); first
 | ((with_reducible refine condN_t ?_ ?_) <;> (intro hc; (try simp only [Bool.and_eq_true, Bool.or_eq_true, Bool.not_eq_true', Bool.and_eq_false_iff, Bool.or_eq_false_iff, decide_eq_true_eq, decide_eq_false_iff_not, bne_iff_ne, beq_iff_eq, reduceCtorEq, bne_eq_false_iff_eq, beq_eq_false_iff_ne, Bool.not_eq_false', Int.not_le, Int.not_lt, Bool.not_not] at hc); (skip); (try (exfalso; first | contradiction | omega)))))
 | ((with_reducible refine hR2 _ (k + 1) ?_); (try clear hR2 KR))
 | ((with_reducible refine Told.mk ?_); simp only [go_sem, reduceIte, reduceCtorEq, Nat.reduceAdd, Nat.reduceLT, Nat.reduceLeDiff, Nat.reduceEqDiff, Nat.reduceMul, Nat.reduceSub, Nat.reduceBEq, cellI, intI, accF0, accF1, accF2, accF3] <;> (first | exact True.intro | (((try simp (disch := omega) only [seaWrap, Int.natCast_add, Int.cast_ofNat_Int, and_true, true_and, and_self]); (repeat' (first | exact True.intro | omega | rfl | (with_reducible assumption) | (with_reducible refine And.intro ?_ ?_) | (exact all_succ (by assumption) (by assumption)) | (exact all_succ (by assumption) (by omega)))); done)) | (refine Stuck.out ?_)))
 | ((fail_if_success (with_reducible show AW _ _ _ _)); simp (maxSteps := 2000000) only [go_sem, reduceIte, reduceCtorEq, Nat.reduceAdd, Nat.reduceLT, Nat.reduceLeDiff, Nat.reduceEqDiff, Nat.reduceMul, Nat.reduceSub, Nat.reduceBEq, Tryz.f61, le_24, sl_24, ar_24, ty_3, cellI, intI, accF0, accF1, accF2, accF3])
 | ((fail_if_success (with_reducible show AW _ _ _ _)); simp (disch := omega) only [seaWrap, seaDiv, seaMod])
 | ((with_reducible refine hK _ ?_); clear hK K)
 | (with_reducible apply_assumption -exfalso only [*]))
  all_goals (refine Eq.symm ?_; unfold hasL; first | exact decide_eq_true ⟨k, by omega, by omega⟩ | exact decide_eq_false (fun ⟨i, h, e⟩ => h2 i (by omega) e))

set_option maxRecDepth 100000 in
set_option maxHeartbeats 4000000 in
theorem coords_p (n : Nat) (g : Nat → Nat → Int) (hn : n ≤ 200) (hg : ∀ i, i < n → (-1000000 ≤ g i 0 ∧ g i 0 ≤ 1000000) ∧ (-1000000 ≤ g i 1 ∧ g i 1 ≤ 1000000)) : CallsP Tryz.prog 67 [.one (.lst 2 n (cellI g))] (.t (.one (.lst 1 (4 * n) (intI fun i => (crdL g n).getD i 0)))) := by
  refine CallsP_of Tryz.func67 rfl (by rw [Tryz.ntmps67]; simp) ?_
  simp only [Tryz.ntmps67, List.map_cons, List.map_nil, PT.tv, argEnv, Nat.zero_add, Nat.reduceAdd]
  repeat' (first
 | ((with_reducible show AW _ _ _ _); first
 | (with_reducible refine AW_seq_k fun K hK => ?_)
 | (with_reducible refine AW_skip ?_)
 | (with_reducible refine AW_exit ?_)
 | (with_reducible refine AW_ret ?_)
 | (with_reducible refine AW_condI ?_)
 | (with_reducible refine AW_block ?_)
 | ((with_reducible show AW _ (Code.region _ _ _) _ _); first
 | (with_reducible refine AW_regionP 0 [0] ?_)
 | (with_reducible refine AW_regionP 1 [0] ?_)
 | (with_reducible refine AW_regionP 2 [0, 3] ?_)
 | (with_reducible refine AW_regionP 3 [0, 3, 4] ?_)
 | (with_reducible refine AW_regionP 4 [0, 3, 4] ?_)
 | ((with_reducible refine AW_prune (c := Code.region 5 _ true) [0, 3, 4] ?_); (with_reducible refine AW_regionB 25 ?_ ?_ ?_ ?_ ?_); (focus kernel_rfl); (focus kernel_rfl); (focus kernel_rfl); (focus kernel_rfl))
 | (with_reducible refine AW_regionP 6 [3] ?_))
 | ((with_reducible show AW _ (Code.loop _) _ _); first
 | ((with_reducible refine AW_loopQ (c := (Code.seq (Code.seq (Code.region 3 _ _) _) _)) (ι := Nat) [0] (fun k => [(3, .t (.one (.slc 0 0 (4 * k) 1))), (4, iA .i64 (k : Int))]) (fun k => [(0, rowI (crdL g k))]) (fun k => k ≤ n) (fun k => n - k) 0 ?lg3 ?l13 ?l23 ?li3 ?lr3); (case' lg3 => rintro k _); (case' li3 => try (first | trivial | omega | (simp; done) | (simp; omega))); (case' lr3 => rintro k hk KR hR3; skip; simp only [keepE, hupd, hset, lk, if_true, if_false, Nat.reduceEqDiff, reduceIte, List.cons_append, List.nil_append, cellI, intI, accF0, accF1, accF2, accF3, rowI_len, crdL_len, rowI_four, crdL_0, maxLen]))))
 | ((first | (with_reducible refine And.intro ?_ ?_) | (with_reducible refine Need.mk ?_)); focus (first | exact True.intro | (with_reducible assumption) | omega | (refine ⟨?_, ?_⟩ <;> omega) | (intro _; first | exact True.intro | (with_reducible assumption) | omega) | (intros; (repeat' (first | exact True.intro | omega | (with_reducible assumption) | (with_reducible refine And.intro ?_ ?_))); done) | (simp (disch := omega) only [Bool.and_eq_true, Bool.or_eq_true, decide_eq_true_eq, bne_iff_ne, ne_eq] at *; first | done | omega | (intros; omega)) | (simp; done) | (simp; omega) | (simp +contextual; done) | (intro h; rw [h]; rfl) | (intro hq; have hq2 := hq; simp only [Bool.and_eq_true, Bool.or_eq_true, Bool.not_eq_true', Bool.not_not, Bool.not_eq_false', decide_eq_true_eq, decide_eq_false_iff_not] at hq2; (repeat' (first | exact hq | (with_reducible refine And.intro ?_ ?_) | omega | (simp_all; done))); done) | (intros; simp_all; done)))
 | (with_reducible refine retK_n ?_)
 | (with_reducible refine retK_n' ?_)
 | (with_reducible refine retH_n rfl rfl rfl ?_)
 | (with_reducible refine retH_n' rfl rfl rfl ?_)
 | ((with_reducible show condN _ _ _ _ _ _); first
 | ((with_reducible refine condN_t ?_ ?_) <;> (intro hc; (try simp only [Bool.and_eq_true, Bool.or_eq_true, Bool.not_eq_true', Bool.and_eq_false_iff, Bool.or_eq_false_iff, decide_eq_true_eq, decide_eq_false_iff_not, bne_iff_ne, beq_iff_eq, reduceCtorEq, bne_eq_false_iff_eq, beq_eq_false_iff_ne, Bool.not_eq_false', Int.not_le, Int.not_lt, Bool.not_not] at hc); ((try have hg1 := hg k (by omega)); (try (have e0 : k = n := (by omega); subst e0))); (try (exfalso; first | contradiction | omega)))))
 | ((with_reducible refine And.intro ?_ ?_); focus (first | ((with_reducible show chkS _ _ _ _ = true); kernel_rfl) | ((with_reducible show holesB _ _ _ = true); kernel_rfl)))
 | ((with_reducible refine And.intro ?_ ?_); focus ((with_reducible show chkR _ _ _ = true); kernel_rfl))
 | ((with_reducible refine hR3 _ (k + 1) ?_); (try clear hR3 KR))
 | ((with_reducible refine Told.mk ?_); simp only [go_sem, reduceIte, reduceCtorEq, Nat.reduceAdd, Nat.reduceLT, Nat.reduceLeDiff, Nat.reduceEqDiff, Nat.reduceMul, Nat.reduceSub, Nat.reduceBEq, cellI, intI, accF0, accF1, accF2, accF3, rowI_len, crdL_len, rowI_four, crdL_0, maxLen] <;> (first | exact True.intro | (((try simp (disch := omega) only [seaWrap, Int.natCast_add, Int.cast_ofNat_Int, and_true, true_and, and_self]); (repeat' (first | exact True.intro | omega | rfl | (with_reducible assumption) | (with_reducible refine And.intro ?_ ?_) | (exact all_succ (by assumption) (by assumption)) | ((exact wkC_eq rfl (rowI_iv _))) | ((rw [crdL_s])))); done)) | (refine Stuck.out ?_)))
 | ((fail_if_success (with_reducible show AW _ _ _ _)); simp (maxSteps := 2000000) only [go_sem, reduceIte, reduceCtorEq, Nat.reduceAdd, Nat.reduceLT, Nat.reduceLeDiff, Nat.reduceEqDiff, Nat.reduceMul, Nat.reduceSub, Nat.reduceBEq, Tryz.f67, le_95, sl_95, ar_95, of_63_0, ty_3, of_63_1, sl_24, zc_3, cellI, intI, accF0, accF1, accF2, accF3, rowI_len, crdL_len, rowI_four, crdL_0, maxLen])
 | ((fail_if_success (with_reducible show AW _ _ _ _)); simp (disch := omega) only [seaWrap, seaDiv, seaMod])
 | ((with_reducible refine hK _ ?_); clear hK K)
 | (with_reducible apply_assumption -exfalso only [*]))
  all_goals (first | (refine ⟨rowI_iv _, fun i o hi ho => ?_⟩; obtain rfl : o = 0 := (by omega); rw [Nat.add_zero, rowI_get _ _ (by rw [crdL_len]; exact hi)]; exact IV.eqv_refl _) | skip)

end Go.Proofs.YtbckibbgajfihaaGreat
