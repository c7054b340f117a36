/- E: walks on abstract states. -/
import Derived.Test.YtbckibbgajfihaaD
import Derived.Test.YtbckibbgajfihaaSo
set_option linter.unusedVariables false
set_option linter.unusedSimpArgs false
namespace Go.Proofs.Ytbckibbgajfihaa
open Go.RowKit Go.Sea
attribute [local go_sem] callK_N gf gk gdrop lkL setL lsF ltAll rdyL bodyF roundQ roundS loopQ loopS jumpOf inLs yV yA bAV zipPut purgeG List.tail_cons Option.isNone_none Option.isNone_some callGK_f callDK_f callDGK_f retN retHN blockA arun_nil arun_plain arun_guard plainF guardF guardB arunD_nil arunD_plain arunD_guard plainDF guardDF guardDB AS.ent Eff.noApp Eff.tgt ftF AV.refs TV.refs CV.refs LV.refs Op.operands Call.operands List.append_toArray List.push_toArray List.flatMap_cons List.flatMap_nil List.toList_toArray Option.toArray List.reverse_cons List.reverse_nil opF AS.ev constA lk AS.get AV.tv AV.nd AS.eff AS.put argEnv PT.tv PV.av AV.mbOf hset hget TV.cells dstOk thenA gB isB toB TV.bool? TV.int? intF loadF storeF fieldF indexF lenF sliceF optI appF minmaxF ipCells fillF repC partsF lvsF TV.lv LV.tv purgeE purgeC purgeH AV.purge CV.purge AV.has TV.has CV.has LV.has calleeF argsF tvsF toPT toIV toIVs toPTs toPV civ isIv iA bA List.map_cons List.map_nil List.length_nil List.length_cons List.getElem?_cons_zero List.getElem?_cons_succ List.getElem?_nil Option.getD_some Option.getD_none Option.bind_some Option.bind_none List.take_succ_cons List.take_zero List.drop_succ_cons List.drop_zero List.take_nil List.drop_nil List.cons_append List.nil_append List.append_nil List.getD_cons_zero List.getD_cons_succ Option.map_some Option.map_none Option.isSome_some Option.isSome_none List.size_toArray List.any_cons List.any_nil List.mem_cons if_true if_false ite_true ite_false cond_true cond_false Nat.zero_add Nat.add_zero Nat.sub_zero Nat.le_refl Nat.zero_mul Nat.mul_zero Nat.one_mul Nat.mul_one Int.toNat_zero Int.toNat_natCast Bool.or_false Bool.false_or Bool.or_true Bool.true_or Bool.and_true Bool.true_and Bool.and_false Bool.false_and beq_self_eq_true beq_true beq_false Bool.not_true Bool.not_false and_true true_and and_false false_and and_self imp_self Bool.cond_false_right Bool.cond_true_left implies_true forall_const true_implies false_implies Option.some.injEq Prod.mk.injEq ne_eq not_false_eq_true not_true_eq_false eq_self Nat.lt_irrefl Nat.not_lt_zero callDK_t calleeT eqN barOp boF seaMin seaMax seaNat1 seaNat2 Value.bool.injEq Value.int.injEq srcF lstC TV.dp IV.eqv PT.eqv PV.eqv All2 keepE hupd callZ_N AS.frz AS.frzW frzs frzsOk frzOk frzE frzA frzT frzC frzG frzH hdel cmpS eqF eqC gvs eqVs eqV decide_true resF tupA inlQ okL okGL okG nextL wkH wkC wkV nilA nilC AV.ok TV.ok CV.ok LV.ok okB forall_eq_or_imp forall_eq List.not_mem_nil List.mem_singleton true_or or_true or_false false_or or_self exists_prop AV.t.injEq TV.one.injEq CV.iv.injEq IV.g.injEq TV.agg.injEq List.cons.injEq
theorem bo_42 : boD Try.prog 42 = false := by kernel_rfl
theorem eq_42 : eqD Try.prog 42 = some (true, [.int .i64, .int .i64, .int .i64, .int .i64, .int .i64]) := by kernel_rfl
theorem fnok_17 : fnOk Try.prog 17 = true := by kernel_rfl
theorem fnok_19 : fnOk Try.prog 19 = true := by kernel_rfl
theorem fnok_24 : fnOk Try.prog 24 = true := by kernel_rfl
theorem fnok_25 : fnOk Try.prog 25 = true := by kernel_rfl
theorem fnok_55 : fnOk Try.prog 55 = true := by kernel_rfl
theorem fnok_56 : fnOk Try.prog 56 = true := by kernel_rfl
theorem fnok_61 : fnOk Try.prog 61 = true := by kernel_rfl
theorem fo_42 : fieldsOk Try.prog 42 = true := by kernel_rfl
theorem pl_33_0 : placeF Try.prog 33 0 = some (0, 1) := by kernel_rfl
theorem pl_33_1 : placeF Try.prog 33 1 = some (1, 1) := by kernel_rfl
theorem pl_33_2 : placeF Try.prog 33 2 = some (2, 1) := by kernel_rfl
theorem pl_33_3 : placeF Try.prog 33 3 = some (3, 1) := by kernel_rfl
theorem pl_42_0 : placeF Try.prog 42 0 = some (0, 1) := by kernel_rfl
theorem pl_42_1 : placeF Try.prog 42 1 = some (1, 4) := by kernel_rfl
theorem zc_3 : zeroC Try.prog 3 = some [.iv (.g (.int .i64 0))] := by kernel_rfl

theorem hset_hset (x y : List CV) : ∀ (H : List (Option (List CV))) (i : Nat), hset (hset H i x) i y = hset H i y
  | [], 0 => rfl
  | [], i + 1 => congrArg (none :: ·) (hset_hset x y [] i)
  | _ :: h, 0 => rfl
  | z :: h, i + 1 => congrArg (z :: ·) (hset_hset x y h i)
def onceZ (zs : List Int) : List Int := Lib.compact (zs.mergeSort fun x y => decide (x ≤ y))
def onceR (zs : List Int) : List Int := onceZ zs ++ List.replicate (zs.length - (onceZ zs).length) 0
theorem sort_t' (zs : List Int) (hz : zs.length < 4611686018427387904) (i : Nat) {H : List (Option (List CV))} (hH : hget H i = some (rowI zs)) : CallsH Try.prog 55 [.one (.slc i 0 zs.length 1)] H (.tup []) (hset H i (rowI (zs.mergeSort fun x y => decide (x ≤ y)))) := sort_t zs hz i H hH
theorem compact_t' (zs : List Int) (hz : zs.length < 4611686018427387904) (i : Nat) {H : List (Option (List CV))} (hH : hget H i = some (rowI (zs.mergeSort fun x y => decide (x ≤ y)))) : CallsH Try.prog 56 [.one (.slc i 0 zs.length 1)] H (.t (.one (.slc i 0 (onceZ zs).length 1))) (hset H i (rowI (onceR zs))) := by
  have h := compact_t (zs.mergeSort fun x y => decide (x ≤ y)) (by rw [sort_len]; exact hz) i H hH
  rw [sort_len] at h
  exact h

set_option maxRecDepth 100000 in
set_option maxHeartbeats 4000000 in
theorem once_t (zs : List Int) (hz : zs.length < 4611686018427387904) (i : Nat) : CallsT Try.prog 54 [.one (.slc i 0 zs.length 1)] i (rowI zs) (.t (.one (.slc i 0 (onceZ zs).length 1))) (rowI (onceR zs)) := by
  intro H hH
  have e := hset_hset (rowI (zs.mergeSort fun x y => decide (x ≤ y))) (rowI (onceR zs)) H i
  rw [← e]
  have hG : hget (hset H i (rowI (zs.mergeSort fun x y => decide (x ≤ y)))) i = some (rowI (zs.mergeSort fun x y => decide (x ≤ y))) := hget_hset_same _ _ _
  generalize hK : hset H i (rowI (zs.mergeSort fun x y => decide (x ≤ y))) = G at hG e
  have c1 := sort_t' zs hz i hH
  rw [hK] at c1
  have c2 := compact_t' zs hz i hG
  refine CallsH_of Try.func54 rfl (by rw [Try.ntmps54]; simp) fun g ls fr => ?_
  simp only [Try.ntmps54, argEnv, Nat.zero_add, Nat.reduceAdd]
  repeat' (first
    | (with_reducible refine AW_seq_k fun K hK => ?_)
    | ((first | (with_reducible refine And.intro ?_ ?_) | (with_reducible refine Need.mk ?_)); focus (first | exact True.intro | (with_reducible assumption) | omega | (refine ⟨?_, ?_⟩ <;> omega) | (intro _; first | exact True.intro | (with_reducible assumption) | omega) | (intros; (repeat' (first | exact True.intro | omega | (with_reducible assumption) | (with_reducible refine And.intro ?_ ?_))); done) | (simp (disch := omega) only [Bool.and_eq_true, Bool.or_eq_true, decide_eq_true_eq, bne_iff_ne, ne_eq] at *; first | done | omega | (intros; omega)) | (simp; done) | (simp; omega) | (simp +contextual; done) | (intro h; rw [h]; rfl) | (intros; simp_all; done)))
    | (with_reducible refine AW_skip ?_)
    | (with_reducible refine AW_exit ?_)
    | (with_reducible refine AW_ret ?_)
    | (with_reducible refine retK_n ?_)
    | (with_reducible refine retK_n' ?_)
    | (with_reducible refine retH_n rfl rfl rfl ?_)
    | (with_reducible refine retH_n' rfl rfl rfl ?_)
    | (with_reducible refine AW_condI ?_)
    | (with_reducible refine AW_block ?_)
    | ((with_reducible refine condN_t ?_ ?_) <;> (intro hc; (try simp only [Bool.and_eq_true, Bool.or_eq_true, Bool.not_eq_true', Bool.and_eq_false_iff, Bool.or_eq_false_iff, decide_eq_true_eq, decide_eq_false_iff_not, bne_iff_ne, beq_iff_eq, reduceCtorEq, bne_eq_false_iff_eq, beq_eq_false_iff_ne, Bool.not_eq_false', Int.not_le, Int.not_lt, Bool.not_not] at hc); (try (exfalso; first | contradiction | omega))))
    | (with_reducible refine AW_regionP 0 [0] ?_)
    | (with_reducible refine AW_regionP 1 [0] ?_)
    | (with_reducible refine AW_regionP 2 [0] ?_)
    | (refine callN_hpq (k := 55) fnok_55 (c1) ?_ ?_)
    | (refine callN_hpq (k := 56) fnok_56 (c2) ?_ ?_)
    | ((fail_if_success (with_reducible show AW _ _ _ _)); simp (maxSteps := 2000000) only [go_sem, reduceIte, reduceCtorEq, Nat.reduceAdd, Nat.reduceLT, Nat.reduceLeDiff, Nat.reduceEqDiff, Nat.reduceMul, Nat.reduceSub, Nat.reduceBEq, Try.f54, fnok_55, fnok_56])
    | ((with_reducible refine hK _ ?_); clear hK K))

def ixL (n : Nat) (s : Nat → Int) (x : Int) : Nat → Int
  | 0 => -1
  | k + 1 => if s (n - (k + 1)) = x then ((n - (k + 1) : Nat) : Int) else ixL n s x k
theorem ixL_1 {n : Nat} {s : Nat → Int} {x : Int} {k : Nat} (hk : k < n) (h : s k = x) : ixL n s x (n - k) = k := by
  obtain ⟨j, hj⟩ : ∃ j, n - k = j + 1 := ⟨n - k - 1, by omega⟩
  rw [hj]; simp only [ixL]; rw [show n - (j + 1) = k by omega, if_pos h]
theorem ixL_2 {n : Nat} {s : Nat → Int} {x : Int} {k : Nat} (hk : k < n) (h : s k ≠ x) : ixL n s x (n - (k + 1)) = ixL n s x (n - k) := by
  obtain ⟨j, hj⟩ : ∃ j, n - k = j + 1 := ⟨n - k - 1, by omega⟩
  rw [hj]; simp only [ixL]; rw [show n - (j + 1) = k by omega, if_neg h, show n - (k + 1) = j by omega]
theorem ixL_b {s : Nat → Int} {x : Int} (n : Nat) : ∀ k, k ≤ n → ((0 ≤ ixL n s x k) ↔ ∃ i, n - k ≤ i ∧ i < n ∧ s i = x)
  | 0, _ => ⟨fun h => by simp [ixL] at h, fun ⟨i, h1, h2, _⟩ => by omega⟩
  | k + 1, hk => by
    simp only [ixL]
    by_cases h : s (n - (k + 1)) = x
    · rw [if_pos h]; exact ⟨fun _ => ⟨n - (k + 1), Nat.le_refl _, by omega, h⟩, fun _ => Int.natCast_nonneg _⟩
    · rw [if_neg h, ixL_b n k (by omega)]
      refine ⟨fun ⟨i, h1, h2, h3⟩ => ⟨i, by omega, h2, h3⟩, fun ⟨i, h1, h2, h3⟩ => ⟨i, ?_, h2, h3⟩⟩
      rcases Nat.lt_or_ge i (n - k) with h4 | h4
      · obtain rfl : i = n - (k + 1) := by omega
        exact absurd h3 h
      · exact h4
theorem hasL_ix {n : Nat} {s : Nat → Int} {x : Int} : decide (0 ≤ ixL n s x n) = hasL n s x := by
  unfold hasL
  rw [decide_eq_decide, ixL_b n n (Nat.le_refl _), Nat.sub_self]
  exact ⟨fun ⟨i, _, h1, h2⟩ => ⟨i, h1, h2⟩, fun ⟨i, h1, h2⟩ => ⟨i, Nat.zero_le _, h1, h2⟩⟩
def cmpB (a b : Acc) : Bool := (decide (a.ver = 0 ∧ a.frm = 0 ∧ a.m = 0 ∧ a.q = 0) || valB a) && valB b

set_option maxRecDepth 100000 in
set_option maxHeartbeats 4000000 in
theorem idx_p (n : Nat) (s : Nat → Int) (x : Int) (hn : n ≤ 9223372036854775807) : CallsP Try.prog 61 [.one (.lst 1 n (intI s)), .one (.g (.int .i64 (x)))] (.t (.one (.g (.int .i64 (ixL n s x n))))) := by
  refine CallsP_of Try.func61 rfl (by rw [Try.ntmps61]; simp) ?_
  simp only [Try.ntmps61, List.map_cons, List.map_nil, PT.tv, argEnv, Nat.zero_add, Nat.reduceAdd]
  repeat' (first
    | (with_reducible refine AW_seq_k fun K hK => ?_)
    | ((first | (with_reducible refine And.intro ?_ ?_) | (with_reducible refine Need.mk ?_)); focus (first | exact True.intro | (with_reducible assumption) | omega | (refine ⟨?_, ?_⟩ <;> omega) | (intro _; first | exact True.intro | (with_reducible assumption) | omega) | (intros; (repeat' (first | exact True.intro | omega | (with_reducible assumption) | (with_reducible refine And.intro ?_ ?_))); done) | (simp (disch := omega) only [Bool.and_eq_true, Bool.or_eq_true, decide_eq_true_eq, bne_iff_ne, ne_eq] at *; first | done | omega | (intros; omega)) | (simp; done) | (simp; omega) | (simp +contextual; done) | (intro h; rw [h]; rfl) | (intros; simp_all; done)))
    | (with_reducible refine AW_skip ?_)
    | (with_reducible refine AW_exit ?_)
    | (with_reducible refine AW_ret ?_)
    | (with_reducible refine retK_n ?_)
    | (with_reducible refine retK_n' ?_)
    | (with_reducible refine retH_n rfl rfl rfl ?_)
    | (with_reducible refine retH_n' rfl rfl rfl ?_)
    | (with_reducible refine AW_condI ?_)
    | (with_reducible refine AW_block ?_)
    | ((with_reducible refine condN_t ?_ ?_) <;> (intro hc; (try simp only [Bool.and_eq_true, Bool.or_eq_true, Bool.not_eq_true', Bool.and_eq_false_iff, Bool.or_eq_false_iff, decide_eq_true_eq, decide_eq_false_iff_not, bne_iff_ne, beq_iff_eq, reduceCtorEq, bne_eq_false_iff_eq, beq_eq_false_iff_ne, Bool.not_eq_false', Int.not_le, Int.not_lt, Bool.not_not] at hc); (skip); (try (exfalso; first | contradiction | omega))))
    | (with_reducible refine AW_regionP 0 [0, 1] ?_)
    | (with_reducible refine AW_regionP 1 [0, 1] ?_)
    | (with_reducible refine AW_regionP 2 [0, 1, 7, 8] ?_)
    | (with_reducible refine AW_regionP 3 [0, 1, 7, 8] ?_)
    | (with_reducible refine AW_regionP 4 [0, 1, 5, 7, 8] ?_)
    | (with_reducible refine AW_regionP 5 [5] ?_)
    | (with_reducible refine AW_regionP 6 [0, 1, 7, 8] ?_)
    | (with_reducible refine AW_regionP 7 [] ?_)
    | ((with_reducible refine AW_loopQ (c := (Code.seq (Code.region 2 _ _) _)) (ι := Nat) [0, 1, 7] (fun k => [(8, iA .i64 (k : Int))]) (fun k => []) (fun k => k ≤ n ∧ ixL n s x (n - k) = ixL n s x n) (fun k => n - k) 0 ?lg2 ?l12 ?l22 ?li2 ?lr2); (case' lg2 => rintro k _); (case' li2 => try exact ⟨Nat.zero_le _, rfl⟩); (case' lr2 => rintro k ⟨h1, h2⟩ KR hR2; skip; simp only [keepE, hupd, hset, lk, if_true, if_false, Nat.reduceEqDiff, reduceIte, List.cons_append, List.nil_append, cellI, intI, accF0, accF1, accF2, accF3]))
    | ((with_reducible refine hR2 _ (k + 1) ?_); (try clear hR2 KR))
    | ((with_reducible refine Told.mk ?_); simp only [go_sem, reduceIte, reduceCtorEq, Nat.reduceAdd, Nat.reduceLT, Nat.reduceLeDiff, Nat.reduceEqDiff, Nat.reduceMul, Nat.reduceSub, Nat.reduceBEq, cellI, intI, accF0, accF1, accF2, accF3] <;> (first | exact True.intro | (((try simp (disch := omega) only [seaWrap, Int.natCast_add, Int.cast_ofNat_Int, and_true, true_and, and_self]); (repeat' (first | exact True.intro | omega | rfl | (with_reducible assumption) | (with_reducible refine And.intro ?_ ?_) | (exact all_succ (by assumption) (by assumption)) | ((exact (ixL_2 (by omega) (by omega)).trans (by assumption))))); done)) | (refine Stuck.out ?_)))
    | ((fail_if_success (with_reducible show AW _ _ _ _)); simp (maxSteps := 2000000) only [go_sem, reduceIte, reduceCtorEq, Nat.reduceAdd, Nat.reduceLT, Nat.reduceLeDiff, Nat.reduceEqDiff, Nat.reduceMul, Nat.reduceSub, Nat.reduceBEq, Try.f61, le_31, sl_31, ar_31, ty_3, cellI, intI, accF0, accF1, accF2, accF3])
    | ((fail_if_success (with_reducible show AW _ _ _ _)); simp (disch := omega) only [seaWrap, seaDiv, seaMod])
    | ((with_reducible refine hK _ ?_); clear hK K)
    | (with_reducible apply_assumption -exfalso only [*]))
  all_goals (rw [← h2]; first | exact (ixL_1 (by omega) (by omega)).symm | (rw [show n - k = 0 by omega]; rfl))

set_option maxRecDepth 100000 in
set_option maxHeartbeats 4000000 in
theorem contains_p (n : Nat) (s : Nat → Int) (x : Int) (hn : n ≤ 9223372036854775807) : CallsP Try.prog 52 [.one (.lst 1 n (intI s)), .one (.g (.int .i64 (x)))] (.t (.one (.g (.bool (hasL n s x))))) := by
  refine CallsP_of Try.func52 rfl (by rw [Try.ntmps52]; simp) ?_
  simp only [Try.ntmps52, List.map_cons, List.map_nil, PT.tv, argEnv, Nat.zero_add, Nat.reduceAdd]
  repeat' (first
    | (with_reducible refine AW_seq_k fun K hK => ?_)
    | ((first | (with_reducible refine And.intro ?_ ?_) | (with_reducible refine Need.mk ?_)); focus (first | exact True.intro | (with_reducible assumption) | omega | (refine ⟨?_, ?_⟩ <;> omega) | (intro _; first | exact True.intro | (with_reducible assumption) | omega) | (intros; (repeat' (first | exact True.intro | omega | (with_reducible assumption) | (with_reducible refine And.intro ?_ ?_))); done) | (simp (disch := omega) only [Bool.and_eq_true, Bool.or_eq_true, decide_eq_true_eq, bne_iff_ne, ne_eq] at *; first | done | omega | (intros; omega)) | (simp; done) | (simp; omega) | (simp +contextual; done) | (intro h; rw [h]; rfl) | (intros; simp_all; done)))
    | (with_reducible refine AW_skip ?_)
    | (with_reducible refine AW_exit ?_)
    | (with_reducible refine AW_ret ?_)
    | (with_reducible refine retK_n ?_)
    | (with_reducible refine retK_n' ?_)
    | (with_reducible refine retH_n rfl rfl rfl ?_)
    | (with_reducible refine retH_n' rfl rfl rfl ?_)
    | (with_reducible refine AW_condI ?_)
    | (with_reducible refine AW_block ?_)
    | ((with_reducible refine condN_t ?_ ?_) <;> (intro hc; (try simp only [Bool.and_eq_true, Bool.or_eq_true, Bool.not_eq_true', Bool.and_eq_false_iff, Bool.or_eq_false_iff, decide_eq_true_eq, decide_eq_false_iff_not, bne_iff_ne, beq_iff_eq, reduceCtorEq, bne_eq_false_iff_eq, beq_eq_false_iff_ne, Bool.not_eq_false', Int.not_le, Int.not_lt, Bool.not_not] at hc); (try (exfalso; first | contradiction | omega))))
    | (with_reducible refine AW_regionP 0 [0, 1] ?_)
    | (with_reducible refine AW_regionP 1 [0, 1] ?_)
    | (refine callN_q (k := 61) fnok_61 (idx_p n s x hn) ?_ ?_)
    | ((fail_if_success (with_reducible show AW _ _ _ _)); simp (maxSteps := 2000000) only [go_sem, reduceIte, reduceCtorEq, Nat.reduceAdd, Nat.reduceLT, Nat.reduceLeDiff, Nat.reduceEqDiff, Nat.reduceMul, Nat.reduceSub, Nat.reduceBEq, Try.f52, fnok_61, cellI, intI, accF0, accF1, accF2, accF3])
    | ((with_reducible refine hK _ ?_); clear hK K))
  all_goals (rw [← hasL_ix])

set_option maxRecDepth 100000 in
set_option maxHeartbeats 4000000 in
theorem cmp_p (a b : Acc) (ha : a.m ≤ 9223372036854775807) (hq : a.q ≤ 9223372036854775807) (hb : b.m ≤ 9223372036854775807) (hr : b.q ≤ 9223372036854775807) : CallsP Try.prog 36 [accP a, accP b] (.t (.one (.g (.bool (cmpB a b))))) := by
  refine CallsP_of Try.func36 rfl (by rw [Try.ntmps36]; simp) ?_
  simp only [Try.ntmps36, List.map_cons, List.map_nil, PT.tv, argEnv, Nat.zero_add, Nat.reduceAdd]
  repeat' (first
    | (with_reducible refine AW_seq_k fun K hK => ?_)
    | ((first | (with_reducible refine And.intro ?_ ?_) | (with_reducible refine Need.mk ?_)); focus (first | exact True.intro | (with_reducible assumption) | omega | (refine ⟨?_, ?_⟩ <;> omega) | (intro _; first | exact True.intro | (with_reducible assumption) | omega) | (intros; (repeat' (first | exact True.intro | omega | (with_reducible assumption) | (with_reducible refine And.intro ?_ ?_))); done) | (simp (disch := omega) only [Bool.and_eq_true, Bool.or_eq_true, decide_eq_true_eq, bne_iff_ne, ne_eq] at *; first | done | omega | (intros; omega)) | (simp; done) | (simp; omega) | (simp +contextual; done) | (intro h; rw [h]; rfl) | (intros; simp_all; done)))
    | (with_reducible refine AW_skip ?_)
    | (with_reducible refine AW_exit ?_)
    | (with_reducible refine AW_ret ?_)
    | (with_reducible refine retK_n ?_)
    | (with_reducible refine retK_n' ?_)
    | (with_reducible refine retH_n rfl rfl rfl ?_)
    | (with_reducible refine retH_n' rfl rfl rfl ?_)
    | (with_reducible refine AW_condI ?_)
    | (with_reducible refine AW_block ?_)
    | ((with_reducible refine condN_t ?_ ?_) <;> (intro hc; (try simp only [Bool.and_eq_true, Bool.or_eq_true, Bool.not_eq_true', Bool.and_eq_false_iff, Bool.or_eq_false_iff, decide_eq_true_eq, decide_eq_false_iff_not, bne_iff_ne, beq_iff_eq, reduceCtorEq, bne_eq_false_iff_eq, beq_eq_false_iff_ne, Bool.not_eq_false', Int.not_le, Int.not_lt, Bool.not_not] at hc); (skip); (try (exfalso; first | contradiction | omega))))
    | (with_reducible refine AW_regionP 0 [0, 1] ?_)
    | (with_reducible refine AW_regionP 1 [2, 3] ?_)
    | (with_reducible refine AW_regionP 2 [2, 3, 5] ?_)
    | (refine callGN_q (k := 17) fnok_17 (fun hg => valid_p _ (by omega) (by omega)) ?_ ?_)
    | ((fail_if_success (with_reducible show AW _ _ _ _)); simp (maxSteps := 2000000) only [go_sem, reduceIte, reduceCtorEq, Nat.reduceAdd, Nat.reduceLT, Nat.reduceLeDiff, Nat.reduceEqDiff, Nat.reduceMul, Nat.reduceSub, Nat.reduceBEq, Try.f36, of_33_0, ty_3, of_33_1, of_33_2, ty_30, le_30, of_33_3, ty_31, le_31, ty_33, fnok_17, cellI, intI, accF0, accF1, accF2, accF3])
    | ((with_reducible refine hK _ ?_); clear hK K))
  all_goals (unfold cmpB; congr 2; rw [Bool.eq_iff_iff]; simp only [Bool.and_eq_true, beq_iff_eq, decide_eq_true_eq]; omega)

set_option maxRecDepth 100000 in
set_option maxHeartbeats 4000000 in
theorem share_p (n a b : Int) : CallsP Try.prog 25 [.one (.g (.int .i64 (n))), .one (.g (.int .i64 (a))), .one (.g (.int .i64 (b)))] (.t (.agg [.g (.int .i64 (n)), .g (.int .i64 (a)), .g (.int .i64 (b)), .g (.int .i64 (0)), .g (.int .i64 (50))])) := by
  refine CallsP_of Try.func25 rfl (by rw [Try.ntmps25]; simp) ?_
  simp only [Try.ntmps25, List.map_cons, List.map_nil, PT.tv, argEnv, Nat.zero_add, Nat.reduceAdd]
  repeat' (first
    | (with_reducible refine AW_seq_k fun K hK => ?_)
    | ((first | (with_reducible refine And.intro ?_ ?_) | (with_reducible refine Need.mk ?_)); focus (first | exact True.intro | (with_reducible assumption) | omega | (refine ⟨?_, ?_⟩ <;> omega) | (intro _; first | exact True.intro | (with_reducible assumption) | omega) | (intros; (repeat' (first | exact True.intro | omega | (with_reducible assumption) | (with_reducible refine And.intro ?_ ?_))); done) | (simp (disch := omega) only [Bool.and_eq_true, Bool.or_eq_true, decide_eq_true_eq, bne_iff_ne, ne_eq] at *; first | done | omega | (intros; omega)) | (simp; done) | (simp; omega) | (simp +contextual; done) | (intro h; rw [h]; rfl) | (intros; simp_all; done)))
    | (with_reducible refine AW_skip ?_)
    | (with_reducible refine AW_exit ?_)
    | (with_reducible refine AW_ret ?_)
    | (with_reducible refine retK_n ?_)
    | (with_reducible refine retK_n' ?_)
    | (with_reducible refine retH_n rfl rfl rfl ?_)
    | (with_reducible refine retH_n' rfl rfl rfl ?_)
    | (with_reducible refine AW_condI ?_)
    | (with_reducible refine AW_block ?_)
    | ((with_reducible refine condN_t ?_ ?_) <;> (intro hc; (try simp only [Bool.and_eq_true, Bool.or_eq_true, Bool.not_eq_true', Bool.and_eq_false_iff, Bool.or_eq_false_iff, decide_eq_true_eq, decide_eq_false_iff_not, bne_iff_ne, beq_iff_eq, reduceCtorEq, bne_eq_false_iff_eq, beq_eq_false_iff_ne, Bool.not_eq_false', Int.not_le, Int.not_lt, Bool.not_not] at hc); (try (exfalso; first | contradiction | omega))))
    | (with_reducible refine AW_regionP 0 [0, 1, 2] ?_)
    | (with_reducible refine AW_regionP 1 [0, 1, 2, 6] ?_)
    | ((fail_if_success (with_reducible show AW _ _ _ _)); simp (maxSteps := 2000000) only [go_sem, reduceIte, reduceCtorEq, Nat.reduceAdd, Nat.reduceLT, Nat.reduceLeDiff, Nat.reduceEqDiff, Nat.reduceMul, Nat.reduceSub, Nat.reduceBEq, Try.f25, zc_42, zc_38, fo_38, pl_38_0, pl_38_1, zc_40, fo_40, pl_40_0, pl_40_1, fo_42, pl_42_0, pl_42_1, ty_42])
    | ((with_reducible refine hK _ ?_); clear hK K))

def eq5 (g g' : Nat → Nat → Int) (i : Nat) : Prop := g i 0 = g' i 0 ∧ g i 1 = g' i 1 ∧ g i 2 = g' i 2 ∧ g i 3 = g' i 3 ∧ g i 4 = g' i 4
instance (g g' : Nat → Nat → Int) (i : Nat) : Decidable (eq5 g g' i) := by unfold eq5; infer_instance
def eqSh (m m' : Nat) (g g' : Nat → Nat → Int) : Bool := decide (m = m' ∧ ∀ i, i < m → eq5 g g' i)
def eqA (a b : Nat → Acc) (i : Nat) : Prop := eqSh (a i).m (b i).m (a i).sh (b i).sh = true ∧ eqL (a i).q (b i).q (a i).sg (b i).sg = true ∧ (a i).ver = (b i).ver ∧ (a i).frm = (b i).frm
instance (a b : Nat → Acc) (i : Nat) : Decidable (eqA a b i) := by unfold eqA; infer_instance
def eqLL (n n' : Nat) (a b : Nat → Acc) : Bool := decide (n = n' ∧ ∀ i, i < n → eqA a b i)

set_option maxRecDepth 100000 in
set_option maxHeartbeats 4000000 in
theorem shares_p (m m' : Nat) (g g' : Nat → Nat → Int) (hm : m ≤ 9223372036854775807) : CallsP Try.prog 24 [.one (.lst 5 m (cellI g)), .one (.lst 5 m' (cellI g'))] (.t (.one (.g (.bool (eqSh m m' g g'))))) := by
  refine CallsP_of Try.func24 rfl (by rw [Try.ntmps24]; simp) ?_
  simp only [Try.ntmps24, List.map_cons, List.map_nil, PT.tv, argEnv, Nat.zero_add, Nat.reduceAdd]
  repeat' (first
    | (with_reducible refine AW_seq_k fun K hK => ?_)
    | ((first | (with_reducible refine And.intro ?_ ?_) | (with_reducible refine Need.mk ?_)); focus (first | exact True.intro | (with_reducible assumption) | omega | (refine ⟨?_, ?_⟩ <;> omega) | (intro _; first | exact True.intro | (with_reducible assumption) | omega) | (intros; (repeat' (first | exact True.intro | omega | (with_reducible assumption) | (with_reducible refine And.intro ?_ ?_))); done) | (simp (disch := omega) only [Bool.and_eq_true, Bool.or_eq_true, decide_eq_true_eq, bne_iff_ne, ne_eq] at *; first | done | omega | (intros; omega)) | (simp; done) | (simp; omega) | (simp +contextual; done) | (intro h; rw [h]; rfl) | (intros; simp_all; done)))
    | (with_reducible refine AW_skip ?_)
    | (with_reducible refine AW_exit ?_)
    | (with_reducible refine AW_ret ?_)
    | (with_reducible refine retK_n ?_)
    | (with_reducible refine retK_n' ?_)
    | (with_reducible refine retH_n rfl rfl rfl ?_)
    | (with_reducible refine retH_n' rfl rfl rfl ?_)
    | (with_reducible refine AW_condI ?_)
    | (with_reducible refine AW_block ?_)
    | ((with_reducible refine condN_t ?_ ?_) <;> (intro hc; (try simp only [Bool.and_eq_true, Bool.or_eq_true, Bool.not_eq_true', Bool.and_eq_false_iff, Bool.or_eq_false_iff, decide_eq_true_eq, decide_eq_false_iff_not, bne_iff_ne, beq_iff_eq, reduceCtorEq, bne_eq_false_iff_eq, beq_eq_false_iff_ne, Bool.not_eq_false', Int.not_le, Int.not_lt, Bool.not_not] at hc); (skip); (try (exfalso; first | contradiction | omega))))
    | (with_reducible refine AW_regionP 0 [0, 1] ?_)
    | (with_reducible refine AW_regionP 1 [0, 1] ?_)
    | (with_reducible refine AW_regionP 2 [] ?_)
    | (with_reducible refine AW_regionP 3 [0, 1] ?_)
    | (with_reducible refine AW_regionP 4 [0, 1, 5] ?_)
    | (with_reducible refine AW_regionP 5 [0, 1, 5] ?_)
    | ((with_reducible refine AW_prune (c := Code.region 6 _ true) [0, 1, 5] ?_); (with_reducible refine AW_regionD ?_ ?_ ?_ ?_); (focus kernel_rfl); (focus kernel_rfl); (focus kernel_rfl))
    | (with_reducible refine AW_regionP 7 [] ?_)
    | (with_reducible refine AW_regionP 8 [] ?_)
    | ((with_reducible refine And.intro ?_ ?_); focus ((with_reducible show chkR _ _ _ = true); kernel_rfl))
    | ((with_reducible refine AW_loopQ (c := (Code.seq (Code.seq (Code.region 4 _ _) _) _)) (ι := Nat) [0, 1] (fun k => [(5, iA .i64 (k : Int))]) (fun k => []) (fun k => k ≤ m ∧ (∀ i, i < k → eq5 g g' i)) (fun k => m - k) 0 ?lg4 ?l14 ?l24 ?li4 ?lr4); (case' lg4 => rintro k _); (case' li4 => try (exact ⟨Nat.zero_le _, fun i hi => absurd hi (Nat.not_lt_zero _)⟩)); (case' lr4 => rintro k ⟨h1, h2⟩ KR hR4; skip; simp only [keepE, hupd, hset, lk, if_true, if_false, Nat.reduceEqDiff, reduceIte, List.cons_append, List.nil_append, cellI, intI, accF0, accF1, accF2, accF3]))
    | ((with_reducible refine hR4 _ (k + 1) ?_); (try clear hR4 KR))
    | ((with_reducible refine Told.mk ?_); simp only [go_sem, reduceIte, reduceCtorEq, Nat.reduceAdd, Nat.reduceLT, Nat.reduceLeDiff, Nat.reduceEqDiff, Nat.reduceMul, Nat.reduceSub, Nat.reduceBEq, cellI, intI, accF0, accF1, accF2, accF3] <;> (first | exact True.intro | (((try simp (disch := omega) only [seaWrap, Int.natCast_add, Int.cast_ofNat_Int, and_true, true_and, and_self]); (repeat' (first | exact True.intro | omega | rfl | (with_reducible assumption) | (with_reducible refine And.intro ?_ ?_) | (exact all_succ (by assumption) (by assumption)) | (exact all_succ (by assumption) (by unfold eq5; first | omega | (simp_all; done))))); done)) | (refine Stuck.out ?_)))
    | ((fail_if_success (with_reducible show AW _ _ _ _)); simp (maxSteps := 2000000) only [go_sem, reduceIte, reduceCtorEq, Nat.reduceAdd, Nat.reduceLT, Nat.reduceLeDiff, Nat.reduceEqDiff, Nat.reduceMul, Nat.reduceSub, Nat.reduceBEq, Try.f24, le_30, sl_30, ar_30, ty_42, bo_42, eq_42, cellI, intI, accF0, accF1, accF2, accF3])
    | ((fail_if_success (with_reducible show AW _ _ _ _)); simp (disch := omega) only [seaWrap, seaDiv, seaMod])
    | ((with_reducible refine hK _ ?_); clear hK K)
    | (with_reducible apply_assumption -exfalso only [*]))
  all_goals (refine Eq.symm ?_; unfold eqSh; first | exact decide_eq_false (by omega) | exact decide_eq_false (fun h => absurd (h.2 k (by omega)) (by unfold eq5; omega)) | exact decide_eq_true ⟨by omega, fun i hi => h2 i (by omega)⟩)

set_option maxRecDepth 100000 in
set_option maxHeartbeats 4000000 in
theorem same_p (n n' : Nat) (a b : Nat → Acc) (hn : n ≤ 9223372036854775807) (ha : ∀ i, i < n → (a i).m ≤ 9223372036854775807 ∧ (a i).q ≤ 9223372036854775807) : CallsP Try.prog 23 [.one (.lst 4 n (accF a)), .one (.lst 4 n' (accF b))] (.t (.one (.g (.bool (eqLL n n' a b))))) := by
  refine CallsP_of Try.func23 rfl (by rw [Try.ntmps23]; simp) ?_
  simp only [Try.ntmps23, List.map_cons, List.map_nil, PT.tv, argEnv, Nat.zero_add, Nat.reduceAdd]
  repeat' (first
    | (with_reducible refine AW_seq_k fun K hK => ?_)
    | ((first | (with_reducible refine And.intro ?_ ?_) | (with_reducible refine Need.mk ?_)); focus (first | exact True.intro | (with_reducible assumption) | omega | (refine ⟨?_, ?_⟩ <;> omega) | (intro _; first | exact True.intro | (with_reducible assumption) | omega) | (intros; (repeat' (first | exact True.intro | omega | (with_reducible assumption) | (with_reducible refine And.intro ?_ ?_))); done) | (simp (disch := omega) only [Bool.and_eq_true, Bool.or_eq_true, decide_eq_true_eq, bne_iff_ne, ne_eq] at *; first | done | omega | (intros; omega)) | (simp; done) | (simp; omega) | (simp +contextual; done) | (intro h; rw [h]; rfl) | (intros; simp_all; done)))
    | (with_reducible refine AW_skip ?_)
    | (with_reducible refine AW_exit ?_)
    | (with_reducible refine AW_ret ?_)
    | (with_reducible refine retK_n ?_)
    | (with_reducible refine retK_n' ?_)
    | (with_reducible refine retH_n rfl rfl rfl ?_)
    | (with_reducible refine retH_n' rfl rfl rfl ?_)
    | (with_reducible refine AW_condI ?_)
    | (with_reducible refine AW_block ?_)
    | ((with_reducible refine condN_t ?_ ?_) <;> (intro hc; (try simp only [Bool.and_eq_true, Bool.or_eq_true, Bool.not_eq_true', Bool.and_eq_false_iff, Bool.or_eq_false_iff, decide_eq_true_eq, decide_eq_false_iff_not, bne_iff_ne, beq_iff_eq, reduceCtorEq, bne_eq_false_iff_eq, beq_eq_false_iff_ne, Bool.not_eq_false', Int.not_le, Int.not_lt, Bool.not_not] at hc); (skip); (try (exfalso; first | contradiction | omega))))
    | (with_reducible refine AW_regionP 0 [0, 1] ?_)
    | (with_reducible refine AW_regionP 1 [0, 1] ?_)
    | (with_reducible refine AW_regionP 2 [] ?_)
    | (with_reducible refine AW_regionP 3 [0, 1] ?_)
    | (with_reducible refine AW_regionP 4 [0, 1, 5] ?_)
    | (with_reducible refine AW_regionP 5 [0, 1, 5] ?_)
    | ((with_reducible refine AW_prune (c := Code.region 6 _ true) [0, 1, 5] ?_); (with_reducible refine AW_regionD ?_ ?_ ?_ ?_); (focus kernel_rfl); (focus kernel_rfl); (focus kernel_rfl))
    | ((with_reducible refine AW_prune (c := Code.region 7 _ true) [0, 1, 5, 6] ?_); (with_reducible refine AW_regionD ?_ ?_ ?_ ?_); (focus kernel_rfl); (focus kernel_rfl); (focus kernel_rfl))
    | ((with_reducible refine AW_prune (c := Code.region 8 _ true) [0, 1, 5, 6, 7] ?_); (with_reducible refine AW_regionD ?_ ?_ ?_ ?_); (focus kernel_rfl); (focus kernel_rfl); (focus kernel_rfl))
    | (with_reducible refine AW_regionP 9 [] ?_)
    | (with_reducible refine AW_regionP 10 [] ?_)
    | ((with_reducible refine And.intro ?_ ?_); focus ((with_reducible show chkR _ _ _ = true); kernel_rfl))
    | (refine callDN_q (k := 24) fnok_24 (shares_p _ _ _ _ (ha _ (by omega)).1) ?_ ?_)
    | (refine callDN_q (k := 19) fnok_19 (ints_p _ _ _ _ (ha _ (by omega)).2) ?_ ?_)
    | ((with_reducible refine AW_loopQ (c := (Code.seq (Code.seq (Code.region 4 _ _) _) _)) (ι := Nat) [0, 1] (fun k => [(5, iA .i64 (k : Int))]) (fun k => []) (fun k => k ≤ n ∧ (∀ i, i < k → eqA a b i)) (fun k => n - k) 0 ?lg4 ?l14 ?l24 ?li4 ?lr4); (case' lg4 => rintro k _); (case' li4 => try (exact ⟨Nat.zero_le _, fun i hi => absurd hi (Nat.not_lt_zero _)⟩)); (case' lr4 => rintro k ⟨h1, h2⟩ KR hR4; skip; simp only [keepE, hupd, hset, lk, if_true, if_false, Nat.reduceEqDiff, reduceIte, List.cons_append, List.nil_append, cellI, intI, accF0, accF1, accF2, accF3]))
    | ((with_reducible refine hR4 _ (k + 1) ?_); (try clear hR4 KR))
    | ((with_reducible refine Told.mk ?_); simp only [go_sem, reduceIte, reduceCtorEq, Nat.reduceAdd, Nat.reduceLT, Nat.reduceLeDiff, Nat.reduceEqDiff, Nat.reduceMul, Nat.reduceSub, Nat.reduceBEq, cellI, intI, accF0, accF1, accF2, accF3] <;> (first | exact True.intro | (((try simp (disch := omega) only [seaWrap, Int.natCast_add, Int.cast_ofNat_Int, and_true, true_and, and_self]); (repeat' (first | exact True.intro | omega | rfl | (with_reducible assumption) | (with_reducible refine And.intro ?_ ?_) | (exact all_succ (by assumption) (by assumption)) | (exact all_succ (by assumption) (by unfold eqA; simp_all)))); done)) | (refine Stuck.out ?_)))
    | ((fail_if_success (with_reducible show AW _ _ _ _)); simp (maxSteps := 2000000) only [go_sem, reduceIte, reduceCtorEq, Nat.reduceAdd, Nat.reduceLT, Nat.reduceLeDiff, Nat.reduceEqDiff, Nat.reduceMul, Nat.reduceSub, Nat.reduceBEq, Try.f23, le_22, sl_22, ar_22, of_33_2, ty_30, fnok_24, of_33_3, ty_31, fnok_19, of_33_0, ty_3, of_33_1, cellI, intI, accF0, accF1, accF2, accF3])
    | ((fail_if_success (with_reducible show AW _ _ _ _)); simp (disch := omega) only [seaWrap, seaDiv, seaMod])
    | ((with_reducible refine hK _ ?_); clear hK K)
    | (with_reducible apply_assumption -exfalso only [*]))
  all_goals (refine Eq.symm ?_; unfold eqLL; first | exact decide_eq_false (by omega) | exact decide_eq_false (fun h => by obtain ⟨a1, a2, a3, a4⟩ := h.2 k (by omega); simp [a1, a2, a3, a4] at hc) | exact decide_eq_true ⟨by omega, fun i hi => h2 i (by omega)⟩)

def s5 (o a b : Int) : Nat → Int
  | 0 => o
  | 1 => a
  | 2 => b
  | 3 => 0
  | _ + 4 => 50
def shTwo (c : Int) : Nat → Nat → Int
  | 0 => s5 3 0 c
  | _ + 1 => s5 5 c 200
def sgTwo : Nat → Int
  | 0 => 3
  | _ + 1 => 5
def accTwo : Nat → Acc
  | 0 => ⟨1, 0, 2, shTwo 100, 2, sgTwo⟩
  | _ + 1 => ⟨2, 60, 2, shTwo 150, 2, sgTwo⟩

set_option maxRecDepth 100000 in
set_option maxHeartbeats 4000000 in
theorem two_p  : CallsP Try.prog 22 [] (.t (.one (.lst 4 2 (accF accTwo)))) := by
  refine CallsP_of Try.func22 rfl (by rw [Try.ntmps22]; simp) ?_
  simp only [Try.ntmps22, List.map_cons, List.map_nil, PT.tv, argEnv, Nat.zero_add, Nat.reduceAdd]
  repeat' (first
    | (with_reducible refine AW_frz (c := Code.ret) [0, 1, 2, 3] ?_ (AW_ret ?_))
    | (with_reducible refine AW_seq_k fun K hK => ?_)
    | ((first | (with_reducible refine And.intro ?_ ?_) | (with_reducible refine Need.mk ?_)); focus (first | exact True.intro | (with_reducible assumption) | omega | (refine ⟨?_, ?_⟩ <;> omega) | (intro _; first | exact True.intro | (with_reducible assumption) | omega) | (intros; (repeat' (first | exact True.intro | omega | (with_reducible assumption) | (with_reducible refine And.intro ?_ ?_))); done) | (simp (disch := omega) only [Bool.and_eq_true, Bool.or_eq_true, decide_eq_true_eq, bne_iff_ne, ne_eq] at *; first | done | omega | (intros; omega)) | (simp; done) | (simp; omega) | (simp +contextual; done) | (intro h; rw [h]; rfl) | (intros; simp_all; done)))
    | (with_reducible refine AW_skip ?_)
    | (with_reducible refine AW_exit ?_)
    | (with_reducible refine AW_ret ?_)
    | (with_reducible refine retK_n ?_)
    | (with_reducible refine retK_n' ?_)
    | (with_reducible refine retH_n rfl rfl rfl ?_)
    | (with_reducible refine retH_n' rfl rfl rfl ?_)
    | (with_reducible refine AW_condI ?_)
    | (with_reducible refine AW_block ?_)
    | ((with_reducible refine condN_t ?_ ?_) <;> (intro hc; (try simp only [Bool.and_eq_true, Bool.or_eq_true, Bool.not_eq_true', Bool.and_eq_false_iff, Bool.or_eq_false_iff, decide_eq_true_eq, decide_eq_false_iff_not, bne_iff_ne, beq_iff_eq, reduceCtorEq, bne_eq_false_iff_eq, beq_eq_false_iff_ne, Bool.not_eq_false', Int.not_le, Int.not_lt, Bool.not_not] at hc); (try (exfalso; first | contradiction | omega))))
    | (with_reducible refine AW_regionP 0 [] ?_)
    | (with_reducible refine AW_regionP 1 [] ?_)
    | (refine callN_q (k := 25) fnok_25 (share_p _ _ _) ?_ ?_)
    | ((fail_if_success (with_reducible show AW _ _ _ _)); simp (maxSteps := 2000000) only [go_sem, reduceIte, reduceCtorEq, Nat.reduceAdd, Nat.reduceLT, Nat.reduceLeDiff, Nat.reduceEqDiff, Nat.reduceMul, Nat.reduceSub, Nat.reduceBEq, Try.f22, fnok_25, sl_30, zc_42, sl_31, zc_3, zc_33, fo_33, pl_33_0, pl_33_2, pl_33_3, pl_33_1, sl_22])
    | ((with_reducible refine hK _ ?_); clear hK K))
  all_goals (intro i o hi ho; rcases i with _ | _ | i <;> rcases o with _ | _ | _ | _ | o <;> first | omega | exact rfl | (refine ⟨rfl, rfl, fun p q hp hq => ?_⟩; rcases p with _ | _ | p <;> rcases q with _ | _ | _ | _ | _ | q <;> first | omega | exact rfl))

end Go.Proofs.Ytbckibbgajfihaa
