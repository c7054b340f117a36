/- E: walks on abstract states. -/
import Derived.Test.YtbckibbgajfihaaGreatD
import Derived.Test.YtbckibbgajfihaaGreatSo
set_option linter.unusedVariables false
set_option linter.unusedSimpArgs false
namespace Go.Proofs.YtbckibbgajfihaaGreat
open Go.RowKit Go.Sea
theorem bo_67 : boD Tryz.prog 67 = false := by kernel_rfl
theorem eq_67 : eqD Tryz.prog 67 = some (true, [.int .i64, .int .i64, .int .i64, .int .i64, .int .i64]) := by kernel_rfl
theorem fnok_7 : fnOk Tryz.prog 7 = true := by kernel_rfl
theorem fnok_15 : fnOk Tryz.prog 15 = true := by kernel_rfl
theorem fnok_23 : fnOk Tryz.prog 23 = true := by kernel_rfl
theorem fnok_27 : fnOk Tryz.prog 27 = true := by kernel_rfl
theorem fnok_86 : fnOk Tryz.prog 86 = true := by kernel_rfl
theorem fnok_87 : fnOk Tryz.prog 87 = true := by kernel_rfl
theorem fnok_96 : fnOk Tryz.prog 96 = true := by kernel_rfl
theorem fo_67 : fieldsOk Tryz.prog 67 = true := by kernel_rfl
theorem pl_26_0 : placeF Tryz.prog 26 0 = some (0, 1) := by kernel_rfl
theorem pl_26_1 : placeF Tryz.prog 26 1 = some (1, 1) := by kernel_rfl
theorem pl_26_2 : placeF Tryz.prog 26 2 = some (2, 1) := by kernel_rfl
theorem pl_26_3 : placeF Tryz.prog 26 3 = some (3, 1) := by kernel_rfl
theorem pl_67_0 : placeF Tryz.prog 67 0 = some (0, 1) := by kernel_rfl
theorem pl_67_1 : placeF Tryz.prog 67 1 = some (1, 4) := by kernel_rfl
theorem zc_3 : zeroC Tryz.prog 3 = some [.iv (.g (.int .i64 0))] := by kernel_rfl

theorem hset_hset (x y : List CV) : ∀ (H : List (Option (List CV))) (i : Nat), hset (hset H i x) i y = hset H i y
  | [], 0 => rfl
  | [], i + 1 => congrArg (none :: ·) (hset_hset x y [] i)
  | _ :: h, 0 => rfl
  | z :: h, i + 1 => congrArg (z :: ·) (hset_hset x y h i)
def onceZ (zs : List Int) : List Int := Lib.compact (zs.mergeSort fun x y => decide (x ≤ y))
def onceR (zs : List Int) : List Int := onceZ zs ++ List.replicate (zs.length - (onceZ zs).length) 0
theorem sort_t' (zs : List Int) (hz : zs.length < 4611686018427387904) (i : Nat) {H : List (Option (List CV))} (hH : hget H i = some (rowI zs)) : CallsH Tryz.prog 86 [.one (.slc i 0 zs.length 1)] H (.tup []) (hset H i (rowI (zs.mergeSort fun x y => decide (x ≤ y)))) := sort_t zs hz i H hH
theorem compact_t' (zs : List Int) (hz : zs.length < 4611686018427387904) (i : Nat) {H : List (Option (List CV))} (hH : hget H i = some (rowI (zs.mergeSort fun x y => decide (x ≤ y)))) : CallsH Tryz.prog 87 [.one (.slc i 0 zs.length 1)] H (.t (.one (.slc i 0 (onceZ zs).length 1))) (hset H i (rowI (onceR zs))) := by
  have h := compact_t (zs.mergeSort fun x y => decide (x ≤ y)) (by rw [sort_len]; exact hz) i H hH
  rw [sort_len] at h
  exact h

set_option maxRecDepth 100000 in
set_option maxHeartbeats 4000000 in
theorem once_t (zs : List Int) (hz : zs.length < 4611686018427387904) (i : Nat) : CallsT Tryz.prog 85 [.one (.slc i 0 zs.length 1)] i (rowI zs) (.t (.one (.slc i 0 (onceZ zs).length 1))) (rowI (onceR zs)) := by
  intro H hH
  have e := hset_hset (rowI (zs.mergeSort fun x y => decide (x ≤ y))) (rowI (onceR zs)) H i
  rw [← e]
  have hG : hget (hset H i (rowI (zs.mergeSort fun x y => decide (x ≤ y)))) i = some (rowI (zs.mergeSort fun x y => decide (x ≤ y))) := hget_hset_same _ _ _
  generalize hK : hset H i (rowI (zs.mergeSort fun x y => decide (x ≤ y))) = G at hG e
  have c1 := sort_t' zs hz i hH
  rw [hK] at c1
  have c2 := compact_t' zs hz i hG
  refine CallsH_of Tryz.func85 rfl (by rw [Tryz.ntmps85]; simp) fun g ls fr => ?_
  simp only [Tryz.ntmps85, argEnv, Nat.zero_add, Nat.reduceAdd]
  repeat' (first
 | ((with_reducible show AW _ _ _ _); first
 | (with_reducible refine AW_seq_k fun K hK => ?_)
 | (with_reducible refine AW_skip ?_)
 | (with_reducible refine AW_exit ?_)
 | (with_reducible refine AW_ret ?_)
 | (with_reducible refine AW_condI ?_)
 | (with_reducible refine AW_block ?_)
 | ((with_reducible show AW _ (Code.region _ _ _) _ _); first
 | (with_reducible refine AW_regionP 0 [0] ?_)
 | (with_reducible refine AW_regionP 1 [0] ?_)
 | (with_reducible refine AW_regionP 2 [0] ?_)))
 | ((first | (with_reducible refine And.intro ?_ ?_) | (with_reducible refine Need.mk ?_)); focus (first | exact True.intro | (with_reducible assumption) | omega | (refine ⟨?_, ?_⟩ <;> omega) | (intro _; first | exact True.intro | (with_reducible assumption) | omega) | (intros; (repeat' (first | exact True.intro | omega | (with_reducible assumption) | (with_reducible refine And.intro ?_ ?_))); done) | (simp (disch := omega) only [Bool.and_eq_true, Bool.or_eq_true, decide_eq_true_eq, bne_iff_ne, ne_eq] at *; first | done | omega | (intros; omega)) | (simp; done) | (simp; omega) | (simp +contextual; done) | (intro h; rw [h]; rfl) | (intros; simp_all; done)))
 | (with_reducible refine retK_n ?_)
 | (with_reducible refine retK_n' ?_)
 | (with_reducible refine retH_n rfl rfl rfl ?_)
 | (with_reducible refine retH_n' rfl rfl rfl ?_)
 | ((with_reducible show condN _ _ _ _ _ _); first
 | ((with_reducible refine condN_t ?_ ?_) <;> (intro hc; (try simp only [Bool.and_eq_true, Bool.or_eq_true, Bool.not_eq_true', Bool.and_eq_false_iff, Bool.or_eq_false_iff, decide_eq_true_eq, decide_eq_false_iff_not, bne_iff_ne, beq_iff_eq, reduceCtorEq, bne_eq_false_iff_eq, beq_eq_false_iff_ne, Bool.not_eq_false', Int.not_le, Int.not_lt, Bool.not_not] at hc); (try (exfalso; first | contradiction | omega)))))
 | ((with_reducible show callN _ _ _ _ _ _ _ _ _ _); first
 | (refine callN_hpq (k := 86) fnok_86 (c1) ?_ ?_)
 | (refine callN_hpq (k := 87) fnok_87 (c2) ?_ ?_))
 | ((fail_if_success (with_reducible show AW _ _ _ _)); simp (maxSteps := 2000000) only [go_sem, reduceIte, reduceCtorEq, Nat.reduceAdd, Nat.reduceLT, Nat.reduceLeDiff, Nat.reduceEqDiff, Nat.reduceMul, Nat.reduceSub, Nat.reduceBEq, Tryz.f85, fnok_86, fnok_87])
 | ((with_reducible refine hK _ ?_); clear hK K))

def ixL (n : Nat) (s : Nat → Int) (x : Int) : Nat → Int
  | 0 => -1
  | k + 1 => if s (n - (k + 1)) = x then ((n - (k + 1) : Nat) : Int) else ixL n s x k
theorem ixL_1 {n : Nat} {s : Nat → Int} {x : Int} {k : Nat} (hk : k < n) (h : s k = x) : ixL n s x (n - k) = k := by
  obtain ⟨j, hj⟩ : ∃ j, n - k = j + 1 := ⟨n - k - 1, by omega⟩
  rw [hj]; simp only [ixL]; rw [show n - (j + 1) = k by omega, if_pos h]
theorem ixL_2 {n : Nat} {s : Nat → Int} {x : Int} {k : Nat} (hk : k < n) (h : s k ≠ x) : ixL n s x (n - (k + 1)) = ixL n s x (n - k) := by
  obtain ⟨j, hj⟩ : ∃ j, n - k = j + 1 := ⟨n - k - 1, by omega⟩
  rw [hj]; simp only [ixL]; rw [show n - (j + 1) = k by omega, if_neg h, show n - (k + 1) = j by omega]
theorem ixL_b {s : Nat → Int} {x : Int} (n : Nat) : ∀ k, k ≤ n → ((0 ≤ ixL n s x k) ↔ ∃ i, n - k ≤ i ∧ i < n ∧ s i = x)
  | 0, _ => ⟨fun h => by simp [ixL] at h, fun ⟨i, h1, h2, _⟩ => by omega⟩
  | k + 1, hk => by
    simp only [ixL]
    by_cases h : s (n - (k + 1)) = x
    · rw [if_pos h]; exact ⟨fun _ => ⟨n - (k + 1), Nat.le_refl _, by omega, h⟩, fun _ => Int.natCast_nonneg _⟩
    · rw [if_neg h, ixL_b n k (by omega)]
      refine ⟨fun ⟨i, h1, h2, h3⟩ => ⟨i, by omega, h2, h3⟩, fun ⟨i, h1, h2, h3⟩ => ⟨i, ?_, h2, h3⟩⟩
      rcases Nat.lt_or_ge i (n - k) with h4 | h4
      · obtain rfl : i = n - (k + 1) := by omega
        exact absurd h3 h
      · exact h4
theorem hasL_ix {n : Nat} {s : Nat → Int} {x : Int} : decide (0 ≤ ixL n s x n) = hasL n s x := by
  unfold hasL
  rw [decide_eq_decide, ixL_b n n (Nat.le_refl _), Nat.sub_self]
  exact ⟨fun ⟨i, _, h1, h2⟩ => ⟨i, h1, h2⟩, fun ⟨i, h1, h2⟩ => ⟨i, Nat.zero_le _, h1, h2⟩⟩
def cmpB (a b : Acc) : Bool := (decide (a.ver = 0 ∧ a.frm = 0 ∧ a.m = 0 ∧ a.q = 0) || valB a) && valB b

set_option maxRecDepth 100000 in
set_option maxHeartbeats 4000000 in
theorem idx_p (n : Nat) (s : Nat → Int) (x : Int) (hn : n ≤ 9223372036854775807) : CallsP Tryz.prog 96 [.one (.lst 1 n (intI s)), .one (.g (.int .i64 (x)))] (.t (.one (.g (.int .i64 (ixL n s x n))))) := by
  refine CallsP_of Tryz.func96 rfl (by rw [Tryz.ntmps96]; simp) ?_
  simp only [Tryz.ntmps96, List.map_cons, List.map_nil, PT.tv, argEnv, Nat.zero_add, Nat.reduceAdd]
  repeat' (first
 | ((with_reducible show AW _ _ _ _); first
 | (with_reducible refine AW_seq_k fun K hK => ?_)
 | (with_reducible refine AW_skip ?_)
 | (with_reducible refine AW_exit ?_)
 | (with_reducible refine AW_ret ?_)
 | (with_reducible refine AW_condI ?_)
 | (with_reducible refine AW_block ?_)
 | ((with_reducible show AW _ (Code.region _ _ _) _ _); first
 | (with_reducible refine AW_regionP 0 [0, 1] ?_)
 | (with_reducible refine AW_regionP 1 [0, 1] ?_)
 | (with_reducible refine AW_regionP 2 [0, 1, 7, 8] ?_)
 | (with_reducible refine AW_regionP 3 [0, 1, 7, 8] ?_)
 | (with_reducible refine AW_regionP 4 [0, 1, 5, 7, 8] ?_)
 | (with_reducible refine AW_regionP 5 [5] ?_)
 | (with_reducible refine AW_regionP 6 [0, 1, 7, 8] ?_)
 | (with_reducible refine AW_regionP 7 [] ?_))
 | ((with_reducible show AW _ (Code.loop _) _ _); first
 | ((with_reducible refine AW_loopQ (c := (Code.seq (Code.region 2 _ _) _)) (ι := Nat) [0, 1, 7] (fun k => [(8, iA .i64 (k : Int))]) (fun k => []) (fun k => k ≤ n ∧ ixL n s x (n - k) = ixL n s x n) (fun k => n - k) 0 ?lg2 ?l12 ?l22 ?li2 ?lr2); (case' lg2 => rintro k _); (case' li2 => try exact ⟨Nat.zero_le _, rfl⟩); (case' lr2 => rintro k ⟨h1, h2⟩ KR hR2; skip; simp only [keepE, hupd, hset, lk, if_true, if_false, Nat.reduceEqDiff, reduceIte, List.cons_append, List.nil_append, cellI, intI, accF0, accF1, accF2, accF3]))))
 | ((first | (with_reducible refine And.intro ?_ ?_) | (with_reducible refine Need.mk ?_)); focus (first | exact True.intro | (with_reducible assumption) | omega | (refine ⟨?_, ?_⟩ <;> omega) | (intro _; first | exact True.intro | (with_reducible assumption) | omega) | (intros; (repeat' (first | exact True.intro | omega | (with_reducible assumption) | (with_reducible refine And.intro ?_ ?_))); done) | (simp (disch := omega) only [Bool.and_eq_true, Bool.or_eq_true, decide_eq_true_eq, bne_iff_ne, ne_eq] at *; first | done | omega | (intros; omega)) | (simp; done) | (simp; omega) | (simp +contextual; done) | (intro h; rw [h]; rfl) | (intros; simp_all; done)))
 | (with_reducible refine retK_n ?_)
 | (with_reducible refine retK_n' ?_)
 | (with_reducible refine retH_n rfl rfl rfl ?_)
 | (with_reducible refine retH_n' rfl rfl rfl ?_)
 | ((with_reducible show condN _ _ _ _ _ _); first
 | ((with_reducible refine condN_t ?_ ?_) <;> (intro hc; (try simp only [Bool.and_eq_true, Bool.or_eq_true, Bool.not_eq_true', Bool.and_eq_false_iff, Bool.or_eq_false_iff, decide_eq_true_eq, decide_eq_false_iff_not, bne_iff_ne, beq_iff_eq, reduceCtorEq, bne_eq_false_iff_eq, beq_eq_false_iff_ne, Bool.not_eq_false', Int.not_le, Int.not_lt, Bool.not_not] at hc); (skip); (try (exfalso; first | contradiction | omega)))))
 | ((with_reducible refine hR2 _ (k + 1) ?_); (try clear hR2 KR))
 | ((with_reducible refine Told.mk ?_); simp only [go_sem, reduceIte, reduceCtorEq, Nat.reduceAdd, Nat.reduceLT, Nat.reduceLeDiff, Nat.reduceEqDiff, Nat.reduceMul, Nat.reduceSub, Nat.reduceBEq, cellI, intI, accF0, accF1, accF2, accF3] <;> (first | exact True.intro | (((try simp (disch := omega) only [seaWrap, Int.natCast_add, Int.cast_ofNat_Int, and_true, true_and, and_self]); (repeat' (first | exact True.intro | omega | rfl | (with_reducible assumption) | (with_reducible refine And.intro ?_ ?_) | (exact all_succ (by assumption) (by assumption)) | ((exact (ixL_2 (by omega) (by omega)).trans (by assumption))))); done)) | (refine Stuck.out ?_)))
 | ((fail_if_success (with_reducible show AW _ _ _ _)); simp (maxSteps := 2000000) only [go_sem, reduceIte, reduceCtorEq, Nat.reduceAdd, Nat.reduceLT, Nat.reduceLeDiff, Nat.reduceEqDiff, Nat.reduceMul, Nat.reduceSub, Nat.reduceBEq, Tryz.f96, le_24, sl_24, ar_24, ty_3, cellI, intI, accF0, accF1, accF2, accF3])
 | ((fail_if_success (with_reducible show AW _ _ _ _)); simp (disch := omega) only [seaWrap, seaDiv, seaMod])
 | ((with_reducible refine hK _ ?_); clear hK K)
 | (with_reducible apply_assumption -exfalso only [*]))
  all_goals (rw [← h2]; first | exact (ixL_1 (by omega) (by omega)).symm | (rw [show n - k = 0 by omega]; rfl))

set_option maxRecDepth 100000 in
set_option maxHeartbeats 4000000 in
theorem contains_p (n : Nat) (s : Nat → Int) (x : Int) (hn : n ≤ 9223372036854775807) : CallsP Tryz.prog 81 [.one (.lst 1 n (intI s)), .one (.g (.int .i64 (x)))] (.t (.one (.g (.bool (hasL n s x))))) := by
  refine CallsP_of Tryz.func81 rfl (by rw [Tryz.ntmps81]; simp) ?_
  simp only [Tryz.ntmps81, List.map_cons, List.map_nil, PT.tv, argEnv, Nat.zero_add, Nat.reduceAdd]
  repeat' (first
 | ((with_reducible show AW _ _ _ _); first
 | (with_reducible refine AW_seq_k fun K hK => ?_)
 | (with_reducible refine AW_skip ?_)
 | (with_reducible refine AW_exit ?_)
 | (with_reducible refine AW_ret ?_)
 | (with_reducible refine AW_condI ?_)
 | (with_reducible refine AW_block ?_)
 | ((with_reducible show AW _ (Code.region _ _ _) _ _); first
 | (with_reducible refine AW_regionP 0 [0, 1] ?_)
 | (with_reducible refine AW_regionP 1 [0, 1] ?_)))
 | ((first | (with_reducible refine And.intro ?_ ?_) | (with_reducible refine Need.mk ?_)); focus (first | exact True.intro | (with_reducible assumption) | omega | (refine ⟨?_, ?_⟩ <;> omega) | (intro _; first | exact True.intro | (with_reducible assumption) | omega) | (intros; (repeat' (first | exact True.intro | omega | (with_reducible assumption) | (with_reducible refine And.intro ?_ ?_))); done) | (simp (disch := omega) only [Bool.and_eq_true, Bool.or_eq_true, decide_eq_true_eq, bne_iff_ne, ne_eq] at *; first | done | omega | (intros; omega)) | (simp; done) | (simp; omega) | (simp +contextual; done) | (intro h; rw [h]; rfl) | (intros; simp_all; done)))
 | (with_reducible refine retK_n ?_)
 | (with_reducible refine retK_n' ?_)
 | (with_reducible refine retH_n rfl rfl rfl ?_)
 | (with_reducible refine retH_n' rfl rfl rfl ?_)
 | ((with_reducible show condN _ _ _ _ _ _); first
 | ((with_reducible refine condN_t ?_ ?_) <;> (intro hc; (try simp only [Bool.and_eq_true, Bool.or_eq_true, Bool.not_eq_true', Bool.and_eq_false_iff, Bool.or_eq_false_iff, decide_eq_true_eq, decide_eq_false_iff_not, bne_iff_ne, beq_iff_eq, reduceCtorEq, bne_eq_false_iff_eq, beq_eq_false_iff_ne, Bool.not_eq_false', Int.not_le, Int.not_lt, Bool.not_not] at hc); (try (exfalso; first | contradiction | omega)))))
 | ((with_reducible show callN _ _ _ _ _ _ _ _ _ _); first
 | (refine callN_q (k := 96) fnok_96 (idx_p n s x hn) ?_ ?_))
 | ((fail_if_success (with_reducible show AW _ _ _ _)); simp (maxSteps := 2000000) only [go_sem, reduceIte, reduceCtorEq, Nat.reduceAdd, Nat.reduceLT, Nat.reduceLeDiff, Nat.reduceEqDiff, Nat.reduceMul, Nat.reduceSub, Nat.reduceBEq, Tryz.f81, fnok_96, cellI, intI, accF0, accF1, accF2, accF3])
 | ((with_reducible refine hK _ ?_); clear hK K))
  all_goals (rw [← hasL_ix])

set_option maxRecDepth 100000 in
set_option maxHeartbeats 4000000 in
theorem cmp_p (a b : Acc) (ha : a.m ≤ 9223372036854775807) (hq : a.q ≤ 9223372036854775807) (hb : b.m ≤ 9223372036854775807) (hr : b.q ≤ 9223372036854775807) : CallsP Tryz.prog 44 [accP a, accP b] (.t (.one (.g (.bool (cmpB a b))))) := by
  refine CallsP_of Tryz.func44 rfl (by rw [Tryz.ntmps44]; simp) ?_
  simp only [Tryz.ntmps44, List.map_cons, List.map_nil, PT.tv, argEnv, Nat.zero_add, Nat.reduceAdd]
  repeat' (first
 | ((with_reducible show AW _ _ _ _); first
 | (with_reducible refine AW_seq_k fun K hK => ?_)
 | (with_reducible refine AW_skip ?_)
 | (with_reducible refine AW_exit ?_)
 | (with_reducible refine AW_ret ?_)
 | (with_reducible refine AW_condI ?_)
 | (with_reducible refine AW_block ?_)
 | ((with_reducible show AW _ (Code.region _ _ _) _ _); first
 | (with_reducible refine AW_regionP 0 [0, 1] ?_)
 | (with_reducible refine AW_regionP 1 [2, 3] ?_)
 | (with_reducible refine AW_regionP 2 [2, 3, 5] ?_)))
 | ((first | (with_reducible refine And.intro ?_ ?_) | (with_reducible refine Need.mk ?_)); focus (first | exact True.intro | (with_reducible assumption) | omega | (refine ⟨?_, ?_⟩ <;> omega) | (intro _; first | exact True.intro | (with_reducible assumption) | omega) | (intros; (repeat' (first | exact True.intro | omega | (with_reducible assumption) | (with_reducible refine And.intro ?_ ?_))); done) | (simp (disch := omega) only [Bool.and_eq_true, Bool.or_eq_true, decide_eq_true_eq, bne_iff_ne, ne_eq] at *; first | done | omega | (intros; omega)) | (simp; done) | (simp; omega) | (simp +contextual; done) | (intro h; rw [h]; rfl) | (intros; simp_all; done)))
 | (with_reducible refine retK_n ?_)
 | (with_reducible refine retK_n' ?_)
 | (with_reducible refine retH_n rfl rfl rfl ?_)
 | (with_reducible refine retH_n' rfl rfl rfl ?_)
 | ((with_reducible show condN _ _ _ _ _ _); first
 | ((with_reducible refine condN_t ?_ ?_) <;> (intro hc; (try simp only [Bool.and_eq_true, Bool.or_eq_true, Bool.not_eq_true', Bool.and_eq_false_iff, Bool.or_eq_false_iff, decide_eq_true_eq, decide_eq_false_iff_not, bne_iff_ne, beq_iff_eq, reduceCtorEq, bne_eq_false_iff_eq, beq_eq_false_iff_ne, Bool.not_eq_false', Int.not_le, Int.not_lt, Bool.not_not] at hc); (skip); (try (exfalso; first | contradiction | omega)))))
 | ((with_reducible show callGN _ _ _ _ _ _ _ _ _ _); first
 | (refine callGN_q (k := 7) fnok_7 (fun hg => valid_p _ (by omega) (by omega)) ?_ ?_))
 | ((fail_if_success (with_reducible show AW _ _ _ _)); simp (maxSteps := 2000000) only [go_sem, reduceIte, reduceCtorEq, Nat.reduceAdd, Nat.reduceLT, Nat.reduceLeDiff, Nat.reduceEqDiff, Nat.reduceMul, Nat.reduceSub, Nat.reduceBEq, Tryz.f44, of_26_0, ty_3, of_26_1, of_26_2, ty_23, le_23, of_26_3, ty_24, le_24, ty_26, fnok_7, cellI, intI, accF0, accF1, accF2, accF3])
 | ((with_reducible refine hK _ ?_); clear hK K))
  all_goals (unfold cmpB; congr 2; rw [Bool.eq_iff_iff]; simp only [Bool.and_eq_true, beq_iff_eq, decide_eq_true_eq]; omega)

set_option maxRecDepth 100000 in
set_option maxHeartbeats 4000000 in
theorem share_p (n a b : Int) : CallsP Tryz.prog 27 [.one (.g (.int .i64 (n))), .one (.g (.int .i64 (a))), .one (.g (.int .i64 (b)))] (.t (.agg [.g (.int .i64 (n)), .g (.int .i64 (a)), .g (.int .i64 (b)), .g (.int .i64 (0)), .g (.int .i64 (50))])) := by
  refine CallsP_of Tryz.func27 rfl (by rw [Tryz.ntmps27]; simp) ?_
  simp only [Tryz.ntmps27, List.map_cons, List.map_nil, PT.tv, argEnv, Nat.zero_add, Nat.reduceAdd]
  repeat' (first
 | ((with_reducible show AW _ _ _ _); first
 | (with_reducible refine AW_seq_k fun K hK => ?_)
 | (with_reducible refine AW_skip ?_)
 | (with_reducible refine AW_exit ?_)
 | (with_reducible refine AW_ret ?_)
 | (with_reducible refine AW_condI ?_)
 | (with_reducible refine AW_block ?_)
 | ((with_reducible show AW _ (Code.region _ _ _) _ _); first
 | (with_reducible refine AW_regionP 0 [0, 1, 2] ?_)
 | (with_reducible refine AW_regionP 1 [0, 1, 2, 6] ?_)))
 | ((first | (with_reducible refine And.intro ?_ ?_) | (with_reducible refine Need.mk ?_)); focus (first | exact True.intro | (with_reducible assumption) | omega | (refine ⟨?_, ?_⟩ <;> omega) | (intro _; first | exact True.intro | (with_reducible assumption) | omega) | (intros; (repeat' (first | exact True.intro | omega | (with_reducible assumption) | (with_reducible refine And.intro ?_ ?_))); done) | (simp (disch := omega) only [Bool.and_eq_true, Bool.or_eq_true, decide_eq_true_eq, bne_iff_ne, ne_eq] at *; first | done | omega | (intros; omega)) | (simp; done) | (simp; omega) | (simp +contextual; done) | (intro h; rw [h]; rfl) | (intros; simp_all; done)))
 | (with_reducible refine retK_n ?_)
 | (with_reducible refine retK_n' ?_)
 | (with_reducible refine retH_n rfl rfl rfl ?_)
 | (with_reducible refine retH_n' rfl rfl rfl ?_)
 | ((with_reducible show condN _ _ _ _ _ _); first
 | ((with_reducible refine condN_t ?_ ?_) <;> (intro hc; (try simp only [Bool.and_eq_true, Bool.or_eq_true, Bool.not_eq_true', Bool.and_eq_false_iff, Bool.or_eq_false_iff, decide_eq_true_eq, decide_eq_false_iff_not, bne_iff_ne, beq_iff_eq, reduceCtorEq, bne_eq_false_iff_eq, beq_eq_false_iff_ne, Bool.not_eq_false', Int.not_le, Int.not_lt, Bool.not_not] at hc); (try (exfalso; first | contradiction | omega)))))
 | ((fail_if_success (with_reducible show AW _ _ _ _)); simp (maxSteps := 2000000) only [go_sem, reduceIte, reduceCtorEq, Nat.reduceAdd, Nat.reduceLT, Nat.reduceLeDiff, Nat.reduceEqDiff, Nat.reduceMul, Nat.reduceSub, Nat.reduceBEq, Tryz.f27, zc_67, zc_63, fo_63, pl_63_0, pl_63_1, zc_65, fo_65, pl_65_0, pl_65_1, fo_67, pl_67_0, pl_67_1, ty_67])
 | ((with_reducible refine hK _ ?_); clear hK K))

def eq5 (g g' : Nat → Nat → Int) (i : Nat) : Prop := g i 0 = g' i 0 ∧ g i 1 = g' i 1 ∧ g i 2 = g' i 2 ∧ g i 3 = g' i 3 ∧ g i 4 = g' i 4
instance (g g' : Nat → Nat → Int) (i : Nat) : Decidable (eq5 g g' i) := by unfold eq5; infer_instance
def eqSh (m m' : Nat) (g g' : Nat → Nat → Int) : Bool := decide (m = m' ∧ ∀ i, i < m → eq5 g g' i)
def eqA (a b : Nat → Acc) (i : Nat) : Prop := eqSh (a i).m (b i).m (a i).sh (b i).sh = true ∧ eqL (a i).q (b i).q (a i).sg (b i).sg = true ∧ (a i).ver = (b i).ver ∧ (a i).frm = (b i).frm
instance (a b : Nat → Acc) (i : Nat) : Decidable (eqA a b i) := by unfold eqA; infer_instance
def eqLL (n n' : Nat) (a b : Nat → Acc) : Bool := decide (n = n' ∧ ∀ i, i < n → eqA a b i)

set_option maxRecDepth 100000 in
set_option maxHeartbeats 4000000 in
theorem shares_p (m m' : Nat) (g g' : Nat → Nat → Int) (hm : m ≤ 9223372036854775807) : CallsP Tryz.prog 23 [.one (.lst 5 m (cellI g)), .one (.lst 5 m' (cellI g'))] (.t (.one (.g (.bool (eqSh m m' g g'))))) := by
  refine CallsP_of Tryz.func23 rfl (by rw [Tryz.ntmps23]; simp) ?_
  simp only [Tryz.ntmps23, List.map_cons, List.map_nil, PT.tv, argEnv, Nat.zero_add, Nat.reduceAdd]
  repeat' (first
 | ((with_reducible show AW _ _ _ _); first
 | (with_reducible refine AW_seq_k fun K hK => ?_)
 | (with_reducible refine AW_skip ?_)
 | (with_reducible refine AW_exit ?_)
 | (with_reducible refine AW_ret ?_)
 | (with_reducible refine AW_condI ?_)
 | (with_reducible refine AW_block ?_)
 | ((with_reducible show AW _ (Code.region _ _ _) _ _); first
 | (with_reducible refine AW_regionP 0 [0, 1] ?_)
 | (with_reducible refine AW_regionP 1 [0, 1] ?_)
 | (with_reducible refine AW_regionP 2 [] ?_)
 | (with_reducible refine AW_regionP 3 [0, 1] ?_)
 | (with_reducible refine AW_regionP 4 [0, 1, 5] ?_)
 | (with_reducible refine AW_regionP 5 [0, 1, 5] ?_)
 | ((with_reducible refine AW_prune (c := Code.region 6 _ true) [0, 1, 5] ?_); (with_reducible refine AW_regionD ?_ ?_ ?_ ?_); (focus kernel_rfl); (focus kernel_rfl); (focus kernel_rfl))
 | (with_reducible refine AW_regionP 7 [] ?_)
 | (with_reducible refine AW_regionP 8 [] ?_))
 | ((with_reducible show AW _ (Code.loop _) _ _); first
 | ((with_reducible refine AW_loopQ (c := (Code.seq (Code.seq (Code.region 4 _ _) _) _)) (ι := Nat) [0, 1] (fun k => [(5, iA .i64 (k : Int))]) (fun k => []) (fun k => k ≤ m ∧ (∀ i, i < k → eq5 g g' i)) (fun k => m - k) 0 ?lg4 ?l14 ?l24 ?li4 ?lr4); (case' lg4 => rintro k _); (case' li4 => try (exact ⟨Nat.zero_le _, fun i hi => absurd hi (Nat.not_lt_zero _)⟩)); (case' lr4 => rintro k ⟨h1, h2⟩ KR hR4; skip; simp only [keepE, hupd, hset, lk, if_true, if_false, Nat.reduceEqDiff, reduceIte, List.cons_append, List.nil_append, cellI, intI, accF0, accF1, accF2, accF3]))))
 | ((first | (with_reducible refine And.intro ?_ ?_) | (with_reducible refine Need.mk ?_)); focus (first | exact True.intro | (with_reducible assumption) | omega | (refine ⟨?_, ?_⟩ <;> omega) | (intro _; first | exact True.intro | (with_reducible assumption) | omega) | (intros; (repeat' (first | exact True.intro | omega | (with_reducible assumption) | (with_reducible refine And.intro ?_ ?_))); done) | (simp (disch := omega) only [Bool.and_eq_true, Bool.or_eq_true, decide_eq_true_eq, bne_iff_ne, ne_eq] at *; first | done | omega | (intros; omega)) | (simp; done) | (simp; omega) | (simp +contextual; done) | (intro h; rw [h]; rfl) | (intros; simp_all; done)))
 | (with_reducible refine retK_n ?_)
 | (with_reducible refine retK_n' ?_)
 | (with_reducible refine retH_n rfl rfl rfl ?_)
 | (with_reducible refine retH_n' rfl rfl rfl ?_)
 | ((with_reducible show condN _ _ _ _ _ _); first
 | ((with_reducible refine condN_t ?_ ?_) <;> (intro hc; (try simp only [Bool.and_eq_true, Bool.or_eq_true, Bool.not_eq_true', Bool.and_eq_false_iff, Bool.or_eq_false_iff, decide_eq_true_eq, decide_eq_false_iff_not, bne_iff_ne, beq_iff_eq, reduceCtorEq, bne_eq_false_iff_eq, beq_eq_false_iff_ne, Bool.not_eq_false', Int.not_le, Int.not_lt, Bool.not_not] at hc); (skip); (try (exfalso; first | contradiction | omega)))))
 | ((with_reducible refine And.intro ?_ ?_); focus ((with_reducible show chkR _ _ _ = true); kernel_rfl))
 | ((with_reducible refine hR4 _ (k + 1) ?_); (try clear hR4 KR))
 | ((with_reducible refine Told.mk ?_); simp only [go_sem, reduceIte, reduceCtorEq, Nat.reduceAdd, Nat.reduceLT, Nat.reduceLeDiff, Nat.reduceEqDiff, Nat.reduceMul, Nat.reduceSub, Nat.reduceBEq, cellI, intI, accF0, accF1, accF2, accF3] <;> (first | exact True.intro | (((try simp (disch := omega) only [seaWrap, Int.natCast_add, Int.cast_ofNat_Int, and_true, true_and, and_self]); (repeat' (first | exact True.intro | omega | rfl | (with_reducible assumption) | (with_reducible refine And.intro ?_ ?_) | (exact all_succ (by assumption) (by assumption)) | (exact all_succ (by assumption) (by unfold eq5; first | omega | (simp_all; done))))); done)) | (refine Stuck.out ?_)))
 | ((fail_if_success (with_reducible show AW _ _ _ _)); simp (maxSteps := 2000000) only [go_sem, reduceIte, reduceCtorEq, Nat.reduceAdd, Nat.reduceLT, Nat.reduceLeDiff, Nat.reduceEqDiff, Nat.reduceMul, Nat.reduceSub, Nat.reduceBEq, Tryz.f23, le_23, sl_23, ar_23, ty_67, bo_67, eq_67, cellI, intI, accF0, accF1, accF2, accF3])
 | ((fail_if_success (with_reducible show AW _ _ _ _)); simp (disch := omega) only [seaWrap, seaDiv, seaMod])
 | ((with_reducible refine hK _ ?_); clear hK K)
 | (with_reducible apply_assumption -exfalso only [*]))
  all_goals (refine Eq.symm ?_; unfold eqSh; first | exact decide_eq_false (by omega) | exact decide_eq_false (fun h => absurd (h.2 k (by omega)) (by unfold eq5; omega)) | exact decide_eq_true ⟨by omega, fun i hi => h2 i (by omega)⟩)

set_option maxRecDepth 100000 in
set_option maxHeartbeats 4000000 in
theorem same_p (n n' : Nat) (a b : Nat → Acc) (hn : n ≤ 9223372036854775807) (ha : ∀ i, i < n → (a i).m ≤ 9223372036854775807 ∧ (a i).q ≤ 9223372036854775807) : CallsP Tryz.prog 18 [.one (.lst 4 n (accF a)), .one (.lst 4 n' (accF b))] (.t (.one (.g (.bool (eqLL n n' a b))))) := by
  refine CallsP_of Tryz.func18 rfl (by rw [Tryz.ntmps18]; simp) ?_
  simp only [Tryz.ntmps18, List.map_cons, List.map_nil, PT.tv, argEnv, Nat.zero_add, Nat.reduceAdd]
  repeat' (first
 | ((with_reducible show AW _ _ _ _); first
 | (with_reducible refine AW_seq_k fun K hK => ?_)
 | (with_reducible refine AW_skip ?_)
 | (with_reducible refine AW_exit ?_)
 | (with_reducible refine AW_ret ?_)
 | (with_reducible refine AW_condI ?_)
 | (with_reducible refine AW_block ?_)
 | ((with_reducible show AW _ (Code.region _ _ _) _ _); first
 | (with_reducible refine AW_regionP 0 [0, 1] ?_)
 | (with_reducible refine AW_regionP 1 [0, 1] ?_)
 | (with_reducible refine AW_regionP 2 [] ?_)
 | (with_reducible refine AW_regionP 3 [0, 1] ?_)
 | (with_reducible refine AW_regionP 4 [0, 1, 5] ?_)
 | (with_reducible refine AW_regionP 5 [0, 1, 5] ?_)
 | ((with_reducible refine AW_prune (c := Code.region 6 _ true) [0, 1, 5] ?_); (with_reducible refine AW_regionD ?_ ?_ ?_ ?_); (focus kernel_rfl); (focus kernel_rfl); (focus kernel_rfl))
 | ((with_reducible refine AW_prune (c := Code.region 7 _ true) [0, 1, 5, 6] ?_); (with_reducible refine AW_regionD ?_ ?_ ?_ ?_); (focus kernel_rfl); (focus kernel_rfl); (focus kernel_rfl))
 | ((with_reducible refine AW_prune (c := Code.region 8 _ true) [0, 1, 5, 6, 7] ?_); (with_reducible refine AW_regionD ?_ ?_ ?_ ?_); (focus kernel_rfl); (focus kernel_rfl); (focus kernel_rfl))
 | (with_reducible refine AW_regionP 9 [] ?_)
 | (with_reducible refine AW_regionP 10 [] ?_))
 | ((with_reducible show AW _ (Code.loop _) _ _); first
 | ((with_reducible refine AW_loopQ (c := (Code.seq (Code.seq (Code.region 4 _ _) _) _)) (ι := Nat) [0, 1] (fun k => [(5, iA .i64 (k : Int))]) (fun k => []) (fun k => k ≤ n ∧ (∀ i, i < k → eqA a b i)) (fun k => n - k) 0 ?lg4 ?l14 ?l24 ?li4 ?lr4); (case' lg4 => rintro k _); (case' li4 => try (exact ⟨Nat.zero_le _, fun i hi => absurd hi (Nat.not_lt_zero _)⟩)); (case' lr4 => rintro k ⟨h1, h2⟩ KR hR4; skip; simp only [keepE, hupd, hset, lk, if_true, if_false, Nat.reduceEqDiff, reduceIte, List.cons_append, List.nil_append, cellI, intI, accF0, accF1, accF2, accF3]))))
 | ((first | (with_reducible refine And.intro ?_ ?_) | (with_reducible refine Need.mk ?_)); focus (first | exact True.intro | (with_reducible assumption) | omega | (refine ⟨?_, ?_⟩ <;> omega) | (intro _; first | exact True.intro | (with_reducible assumption) | omega) | (intros; (repeat' (first | exact True.intro | omega | (with_reducible assumption) | (with_reducible refine And.intro ?_ ?_))); done) | (simp (disch := omega) only [Bool.and_eq_true, Bool.or_eq_true, decide_eq_true_eq, bne_iff_ne, ne_eq] at *; first | done | omega | (intros; omega)) | (simp; done) | (simp; omega) | (simp +contextual; done) | (intro h; rw [h]; rfl) | (intros; simp_all; done)))
 | (with_reducible refine retK_n ?_)
 | (with_reducible refine retK_n' ?_)
 | (with_reducible refine retH_n rfl rfl rfl ?_)
 | (with_reducible refine retH_n' rfl rfl rfl ?_)
 | ((with_reducible show condN _ _ _ _ _ _); first
 | ((with_reducible refine condN_t ?_ ?_) <;> (intro hc; (try simp only [Bool.and_eq_true, Bool.or_eq_true, Bool.not_eq_true', Bool.and_eq_false_iff, Bool.or_eq_false_iff, decide_eq_true_eq, decide_eq_false_iff_not, bne_iff_ne, beq_iff_eq, reduceCtorEq, bne_eq_false_iff_eq, beq_eq_false_iff_ne, Bool.not_eq_false', Int.not_le, Int.not_lt, Bool.not_not] at hc); (skip); (try (exfalso; first | contradiction | omega)))))
 | ((with_reducible refine And.intro ?_ ?_); focus ((with_reducible show chkR _ _ _ = true); kernel_rfl))
 | ((with_reducible show callDN _ _ _ _ _ _ _ _ _ _ _ _ _); first
 | (refine callDN_q (k := 23) fnok_23 (shares_p _ _ _ _ (ha _ (by omega)).1) ?_ ?_)
 | (refine callDN_q (k := 15) fnok_15 (ints_p _ _ _ _ (ha _ (by omega)).2) ?_ ?_))
 | ((with_reducible refine hR4 _ (k + 1) ?_); (try clear hR4 KR))
 | ((with_reducible refine Told.mk ?_); simp only [go_sem, reduceIte, reduceCtorEq, Nat.reduceAdd, Nat.reduceLT, Nat.reduceLeDiff, Nat.reduceEqDiff, Nat.reduceMul, Nat.reduceSub, Nat.reduceBEq, cellI, intI, accF0, accF1, accF2, accF3] <;> (first | exact True.intro | (((try simp (disch := omega) only [seaWrap, Int.natCast_add, Int.cast_ofNat_Int, and_true, true_and, and_self]); (repeat' (first | exact True.intro | omega | rfl | (with_reducible assumption) | (with_reducible refine And.intro ?_ ?_) | (exact all_succ (by assumption) (by assumption)) | (exact all_succ (by assumption) (by unfold eqA; simp_all)))); done)) | (refine Stuck.out ?_)))
 | ((fail_if_success (with_reducible show AW _ _ _ _)); simp (maxSteps := 2000000) only [go_sem, reduceIte, reduceCtorEq, Nat.reduceAdd, Nat.reduceLT, Nat.reduceLeDiff, Nat.reduceEqDiff, Nat.reduceMul, Nat.reduceSub, Nat.reduceBEq, Tryz.f18, le_22, sl_22, ar_22, of_26_2, ty_23, fnok_23, of_26_3, ty_24, fnok_15, of_26_0, ty_3, of_26_1, cellI, intI, accF0, accF1, accF2, accF3])
 | ((fail_if_success (with_reducible show AW _ _ _ _)); simp (disch := omega) only [seaWrap, seaDiv, seaMod])
 | ((with_reducible refine hK _ ?_); clear hK K)
 | (with_reducible apply_assumption -exfalso only [*]))
  all_goals (refine Eq.symm ?_; unfold eqLL; first | exact decide_eq_false (by omega) | exact decide_eq_false (fun h => by obtain ⟨a1, a2, a3, a4⟩ := h.2 k (by omega); simp [a1, a2, a3, a4] at hc) | exact decide_eq_true ⟨by omega, fun i hi => h2 i (by omega)⟩)

def s5 (o a b : Int) : Nat → Int
  | 0 => o
  | 1 => a
  | 2 => b
  | 3 => 0
  | _ + 4 => 50
def shTwo (c : Int) : Nat → Nat → Int
  | 0 => s5 3 0 c
  | _ + 1 => s5 5 c 200
def sgTwo : Nat → Int
  | 0 => 3
  | _ + 1 => 5
def accTwo : Nat → Acc
  | 0 => ⟨1, 0, 2, shTwo 100, 2, sgTwo⟩
  | _ + 1 => ⟨2, 60, 2, shTwo 150, 2, sgTwo⟩

set_option maxRecDepth 100000 in
set_option maxHeartbeats 4000000 in
theorem two_p  : CallsP Tryz.prog 26 [] (.t (.one (.lst 4 2 (accF accTwo)))) := by
  refine CallsP_of Tryz.func26 rfl (by rw [Tryz.ntmps26]; simp) ?_
  simp only [Tryz.ntmps26, List.map_cons, List.map_nil, PT.tv, argEnv, Nat.zero_add, Nat.reduceAdd]
  repeat' (first
 | ((with_reducible show AW _ _ _ _); first
 | (with_reducible refine AW_frz (c := Code.ret) [0, 1, 2, 3] ?_ (AW_ret ?_))
 | (with_reducible refine AW_seq_k fun K hK => ?_)
 | (with_reducible refine AW_skip ?_)
 | (with_reducible refine AW_exit ?_)
 | (with_reducible refine AW_ret ?_)
 | (with_reducible refine AW_condI ?_)
 | (with_reducible refine AW_block ?_)
 | ((with_reducible show AW _ (Code.region _ _ _) _ _); first
 | (with_reducible refine AW_regionP 0 [] ?_)
 | (with_reducible refine AW_regionP 1 [] ?_)))
 | ((first | (with_reducible refine And.intro ?_ ?_) | (with_reducible refine Need.mk ?_)); focus (first | exact True.intro | (with_reducible assumption) | omega | (refine ⟨?_, ?_⟩ <;> omega) | (intro _; first | exact True.intro | (with_reducible assumption) | omega) | (intros; (repeat' (first | exact True.intro | omega | (with_reducible assumption) | (with_reducible refine And.intro ?_ ?_))); done) | (simp (disch := omega) only [Bool.and_eq_true, Bool.or_eq_true, decide_eq_true_eq, bne_iff_ne, ne_eq] at *; first | done | omega | (intros; omega)) | (simp; done) | (simp; omega) | (simp +contextual; done) | (intro h; rw [h]; rfl) | (intros; simp_all; done)))
 | (with_reducible refine retK_n ?_)
 | (with_reducible refine retK_n' ?_)
 | (with_reducible refine retH_n rfl rfl rfl ?_)
 | (with_reducible refine retH_n' rfl rfl rfl ?_)
 | ((with_reducible show condN _ _ _ _ _ _); first
 | ((with_reducible refine condN_t ?_ ?_) <;> (intro hc; (try simp only [Bool.and_eq_true, Bool.or_eq_true, Bool.not_eq_true', Bool.and_eq_false_iff, Bool.or_eq_false_iff, decide_eq_true_eq, decide_eq_false_iff_not, bne_iff_ne, beq_iff_eq, reduceCtorEq, bne_eq_false_iff_eq, beq_eq_false_iff_ne, Bool.not_eq_false', Int.not_le, Int.not_lt, Bool.not_not] at hc); (try (exfalso; first | contradiction | omega)))))
 | ((with_reducible show callN _ _ _ _ _ _ _ _ _ _); first
 | (refine callN_q (k := 27) fnok_27 (share_p _ _ _) ?_ ?_))
 | ((fail_if_success (with_reducible show AW _ _ _ _)); simp (maxSteps := 2000000) only [go_sem, reduceIte, reduceCtorEq, Nat.reduceAdd, Nat.reduceLT, Nat.reduceLeDiff, Nat.reduceEqDiff, Nat.reduceMul, Nat.reduceSub, Nat.reduceBEq, Tryz.f26, fnok_27, sl_23, zc_67, sl_24, zc_3, zc_26, fo_26, pl_26_0, pl_26_2, pl_26_3, pl_26_1, sl_22])
 | ((with_reducible refine hK _ ?_); clear hK K))
  all_goals (intro i o hi ho; rcases i with _ | _ | i <;> rcases o with _ | _ | _ | _ | o <;> first | omega | exact rfl | (refine ⟨rfl, rfl, fun p q hp hq => ?_⟩; rcases p with _ | _ | p <;> rcases q with _ | _ | _ | _ | _ | q <;> first | omega | exact rfl))

end Go.Proofs.YtbckibbgajfihaaGreat
