/- X: walks on abstract states. -/
import Derived.Test.YthfnmooeijneoaaW
set_option linter.unusedVariables false
set_option linter.unusedSimpArgs false
namespace Go.Proofs.Ythfnmooeijneoaa
open Go.RowKit Go.Sea
attribute [local go_sem] callK_N gf gk gdrop lkL setL lsF ltAll rdyL bodyF roundQ roundS loopQ loopS jumpOf inLs yV yA bAV zipPut purgeG List.tail_cons Option.isNone_none Option.isNone_some callGK_f callDK_f callDGK_f retN retHN blockA arun_nil arun_plain arun_guard plainF guardF guardB arunD_nil arunD_plain arunD_guard plainDF guardDF guardDB AS.ent Eff.noApp Eff.tgt ftF AV.refs TV.refs CV.refs LV.refs Op.operands Call.operands List.append_toArray List.push_toArray List.flatMap_cons List.flatMap_nil List.toList_toArray Option.toArray List.reverse_cons List.reverse_nil opF AS.ev constA lk AS.get AV.tv AV.nd AS.eff AS.put argEnv PT.tv PV.av AV.mbOf hset hget TV.cells dstOk thenA gB isB toB TV.bool? TV.int? intF loadF storeF fieldF indexF lenF sliceF optI appF minmaxF ipCells fillF repC partsF lvsF TV.lv LV.tv purgeE purgeC purgeH AV.purge CV.purge AV.has TV.has CV.has LV.has calleeF argsF tvsF toPT toIV toIVs toPTs toPV civ isIv iA bA List.map_cons List.map_nil List.length_nil List.length_cons List.getElem?_cons_zero List.getElem?_cons_succ List.getElem?_nil Option.getD_some Option.getD_none Option.bind_some Option.bind_none List.take_succ_cons List.take_zero List.drop_succ_cons List.drop_zero List.take_nil List.drop_nil List.cons_append List.nil_append List.append_nil List.getD_cons_zero List.getD_cons_succ Option.map_some Option.map_none Option.isSome_some Option.isSome_none List.size_toArray List.any_cons List.any_nil List.mem_cons if_true if_false ite_true ite_false cond_true cond_false Nat.zero_add Nat.add_zero Nat.sub_zero Nat.le_refl Nat.zero_mul Nat.mul_zero Nat.one_mul Nat.mul_one Int.toNat_zero Int.toNat_natCast Bool.or_false Bool.false_or Bool.or_true Bool.true_or Bool.and_true Bool.true_and Bool.and_false Bool.false_and beq_self_eq_true beq_true beq_false Bool.not_true Bool.not_false and_true true_and and_false false_and and_self imp_self Bool.cond_false_right Bool.cond_true_left implies_true forall_const true_implies false_implies Option.some.injEq Prod.mk.injEq ne_eq not_false_eq_true not_true_eq_false eq_self Nat.lt_irrefl Nat.not_lt_zero boF seaMin seaMax seaNat1 seaNat2 Value.bool.injEq Value.int.injEq srcF lstC TV.dp IV.eqv PT.eqv PV.eqv All2 keepE hupd callZ_N AS.frz AS.frzW frzs frzsOk frzOk frzE frzA frzT frzC frzG frzH hdel cmpS eqF eqC gvs eqVs eqV decide_true resF tupA inlQ okL okGL okG nextL wkH wkC wkV nilA nilC AV.ok TV.ok CV.ok LV.ok okB forall_eq_or_imp forall_eq List.not_mem_nil List.mem_singleton true_or or_true or_false false_or exists_prop AV.t.injEq TV.one.injEq CV.iv.injEq IV.g.injEq TV.agg.injEq List.cons.injEq
theorem bo_4 : boD Try.prog 4 = true := by kernel_rfl
theorem fnok_13 : fnOk Try.prog 13 = true := by kernel_rfl
theorem fnok_14 : fnOk Try.prog 14 = true := by kernel_rfl
theorem fnok_20 : fnOk Try.prog 20 = true := by kernel_rfl
theorem fnok_23 : fnOk Try.prog 23 = true := by kernel_rfl
theorem fnok_24 : fnOk Try.prog 24 = true := by kernel_rfl
theorem fnok_25 : fnOk Try.prog 25 = true := by kernel_rfl
theorem fnok_26 : fnOk Try.prog 26 = true := by kernel_rfl
theorem fnok_27 : fnOk Try.prog 27 = true := by kernel_rfl
theorem fnok_28 : fnOk Try.prog 28 = true := by kernel_rfl
theorem fnok_29 : fnOk Try.prog 29 = true := by kernel_rfl
theorem fnok_30 : fnOk Try.prog 30 = true := by kernel_rfl
theorem fnok_47 : fnOk Try.prog 47 = true := by kernel_rfl
theorem fnok_65 : fnOk Try.prog 65 = true := by kernel_rfl
theorem fnok_67 : fnOk Try.prog 67 = true := by kernel_rfl

theorem gdB_t {n k : Nat} {lo hi : Nat → Int} {b0 b1 : Int} (hk : (n : Int) ≤ k) (h : ∀ i, i < k → aE (lo i) (hi i) b0 b1 = 0 ∧ hv (aL (lo i) (hi i) b0 b1) (aH (lo i) (hi i) b0 b1) = true) : gdB n lo hi b0 b1 = true := decide_eq_true fun i hi => h i (by omega)
theorem gdB_f {n k : Nat} {lo hi : Nat → Int} {b0 b1 : Int} (hk : (k : Int) < n) (h : aE (lo k) (hi k) b0 b1 ≠ 0 ∨ hv (aL (lo k) (hi k) b0 b1) (aH (lo k) (hi k) b0 b1) = false) : gdB n lo hi b0 b1 = false := decide_eq_false fun h' => by
  have := h' k (by omega)
  rcases h with h | h
  · exact h this.1
  · rw [this.2] at h; cases h

set_option maxRecDepth 100000 in
set_option maxHeartbeats 4000000 in
theorem tshift_1 (s st : Int) (n : Nat) (lo hi : Nat → Int) (b0 b1 : Int) (hh : (tval s st n lo hi && sv b0 b1) = false) : CallsP Try.prog 29 [tideP s st n lo hi, .agg [.g (.int .i64 (b0)), .g (.int .i64 (b1))]] (.tup [tideP (zi (1) s) (zi (1) st) (zn (1) n) (sl lo hi b0 b1) (sh lo hi b0 b1), .one (.g (.int .i64 (1)))]) := by
  refine CallsP_of Try.func29 rfl (by rw [Try.ntmps29]; simp) ?_
  simp only [Try.ntmps29, List.map_cons, List.map_nil, PT.tv, argEnv, Nat.zero_add, Nat.reduceAdd]
  repeat' (first
    | (with_reducible refine AW_seq_k fun K hK => ?_)
    | ((first | (with_reducible refine And.intro ?_ ?_) | (with_reducible refine Need.mk ?_)); focus (first | exact True.intro | (with_reducible assumption) | omega | (refine ⟨?_, ?_⟩ <;> omega) | (intro _; first | exact True.intro | (with_reducible assumption) | omega) | (intros; (repeat' (first | exact True.intro | omega | (with_reducible assumption) | (with_reducible refine And.intro ?_ ?_))); done) | (simp (disch := omega) only [Bool.and_eq_true, Bool.or_eq_true, decide_eq_true_eq, bne_iff_ne, ne_eq] at *; first | done | omega | (intros; omega)) | (simp; done) | (simp; omega) | (simp +contextual; done) | (intro h; rw [h]; rfl) | (intros; simp_all; done)))
    | (with_reducible refine AW_skip ?_)
    | (with_reducible refine AW_exit ?_)
    | (with_reducible refine AW_ret ?_)
    | (with_reducible refine retK_n ?_)
    | (with_reducible refine retK_n' ?_)
    | (with_reducible refine retH_n rfl rfl rfl ?_)
    | (with_reducible refine retH_n' rfl rfl rfl ?_)
    | (with_reducible refine AW_condI ?_)
    | (with_reducible refine AW_block ?_)
    | ((with_reducible refine condN_t ?_ ?_) <;> (intro hc; (try simp only [Bool.and_eq_true, Bool.or_eq_true, Bool.not_eq_true', Bool.and_eq_false_iff, Bool.or_eq_false_iff, decide_eq_true_eq, decide_eq_false_iff_not, bne_iff_ne, beq_iff_eq, reduceCtorEq, bne_eq_false_iff_eq, beq_eq_false_iff_ne, Bool.not_eq_false', Int.not_le, Int.not_lt, Bool.not_not] at hc); (skip); (try (exfalso; first | contradiction | omega))))
    | (with_reducible refine AW_regionP 0 [0, 1] ?_)
    | (with_reducible refine AW_regionP 1 [2, 3, 4] ?_)
    | (with_reducible refine AW_regionP 2 [4] ?_)
    | (with_reducible refine AW_regionP 3 [2, 3, 4] ?_)
    | (with_reducible refine AW_regionP 4 [2, 3, 4, 6] ?_)
    | (with_reducible refine AW_regionP 5 [3, 4, 6, 26, 27, 28] ?_)
    | (with_reducible refine AW_regionP 6 [3, 4, 6, 26, 27, 28] ?_)
    | (with_reducible refine AW_regionP 7 [3, 4, 6, 8, 26, 27, 28] ?_)
    | (with_reducible refine AW_regionP 8 [3, 4, 6, 9, 10, 26, 27, 28] ?_)
    | (with_reducible refine AW_regionP 9 [4] ?_)
    | (with_reducible refine AW_regionP 10 [3, 4, 6, 9, 26, 27, 28] ?_)
    | (with_reducible refine AW_regionP 11 [3, 4, 6, 26, 27, 28] ?_)
    | (with_reducible refine AW_regionP 12 [4, 6] ?_)
    | (refine callN_q (k := 18) fnok_18 (valid_p _ _ _ _ _) ?_ ?_)
    | (refine callGN_q (k := 64) fnok_64 (fun hg => sValid_p _ _) ?_ ?_)
    | ((fail_if_success (with_reducible show AW _ _ _ _)); simp (maxSteps := 2000000) only [go_sem, reduceIte, reduceCtorEq, Nat.reduceAdd, Nat.reduceLT, Nat.reduceLeDiff, Nat.reduceEqDiff, Nat.reduceMul, Nat.reduceSub, Nat.reduceBEq, Try.f29, zc_24, ty_24, fnok_18, ty_31, fnok_64, fo_24, of_24_0, ty_3, of_24_1, pl_24_0, pl_24_1, of_24_2, ty_22, le_22, sl_22, ar_22, zc_31, fnok_65, fnok_53, zi_0, zi_1, zi_3, zi_6, zi_18, zn_0, zn_1, zn_3, zn_6, zn_18, hh])
    | ((fail_if_success (with_reducible show AW _ _ _ _)); simp (disch := omega) only [seaWrap, seaDiv, seaMod])
    | ((with_reducible refine hK _ ?_); clear hK K))
  all_goals (first | omega | (simp_all; done) | (simp_all; omega) | exact ⟨⟨rfl, rfl, ⟨rfl, rfl⟩, trivial⟩, rfl⟩ | exact ⟨rfl, fun i o _ _ => IV.eqv_refl _⟩ | exact fun i o _ _ => IV.eqv_refl _ | skip)

set_option maxRecDepth 100000 in
set_option maxHeartbeats 4000000 in
theorem tshift_x (s st : Int) (n : Nat) (lo hi : Nat → Int) (b0 b1 : Int) (hv0 : tval s st n lo hi = true) (hs : sv b0 b1 = true) (h200 : n ≤ 200) : CallsP Try.prog 29 [tideP s st n lo hi, .agg [.g (.int .i64 (b0)), .g (.int .i64 (b1))]] (.tup [tideP (zi (bif gdB n lo hi b0 b1 then 0 else 3) s) (zi (bif gdB n lo hi b0 b1 then 0 else 3) st) (zn (bif gdB n lo hi b0 b1 then 0 else 3) n) (sl lo hi b0 b1) (sh lo hi b0 b1), .one (.g (.int .i64 (bif gdB n lo hi b0 b1 then 0 else 3)))]) := by
  refine CallsP_of Try.func29 rfl (by rw [Try.ntmps29]; simp) ?_
  simp only [Try.ntmps29, List.map_cons, List.map_nil, PT.tv, argEnv, Nat.zero_add, Nat.reduceAdd]
  repeat' (first
    | (with_reducible refine AW_seq_k fun K hK => ?_)
    | ((first | (with_reducible refine And.intro ?_ ?_) | (with_reducible refine Need.mk ?_)); focus (first | exact True.intro | (with_reducible assumption) | omega | (refine ⟨?_, ?_⟩ <;> omega) | (intro _; first | exact True.intro | (with_reducible assumption) | omega) | (intros; (repeat' (first | exact True.intro | omega | (with_reducible assumption) | (with_reducible refine And.intro ?_ ?_))); done) | (simp (disch := omega) only [Bool.and_eq_true, Bool.or_eq_true, decide_eq_true_eq, bne_iff_ne, ne_eq] at *; first | done | omega | (intros; omega)) | (simp; done) | (simp; omega) | (simp +contextual; done) | (intro h; rw [h]; rfl) | (intros; simp_all; done)))
    | (with_reducible refine AW_skip ?_)
    | (with_reducible refine AW_exit ?_)
    | (with_reducible refine AW_ret ?_)
    | (with_reducible refine retK_n ?_)
    | (with_reducible refine retK_n' ?_)
    | (with_reducible refine retH_n rfl rfl rfl ?_)
    | (with_reducible refine retH_n' rfl rfl rfl ?_)
    | (with_reducible refine AW_condI ?_)
    | (with_reducible refine AW_block ?_)
    | ((with_reducible refine condN_t ?_ ?_) <;> (intro hc; (try simp only [Bool.and_eq_true, Bool.or_eq_true, Bool.not_eq_true', Bool.and_eq_false_iff, Bool.or_eq_false_iff, decide_eq_true_eq, decide_eq_false_iff_not, bne_iff_ne, beq_iff_eq, reduceCtorEq, bne_eq_false_iff_eq, beq_eq_false_iff_ne, Bool.not_eq_false', Int.not_le, Int.not_lt, Bool.not_not] at hc); (skip); (try (exfalso; first | contradiction | omega))))
    | (with_reducible refine AW_regionP 0 [0, 1] ?_)
    | (with_reducible refine AW_regionP 1 [2, 3, 4] ?_)
    | (with_reducible refine AW_regionP 2 [4] ?_)
    | (with_reducible refine AW_regionP 3 [2, 3, 4] ?_)
    | (with_reducible refine AW_regionP 4 [2, 3, 4, 6] ?_)
    | (with_reducible refine AW_regionP 5 [3, 4, 6, 26, 27, 28] ?_)
    | (with_reducible refine AW_regionP 6 [3, 4, 6, 26, 27, 28] ?_)
    | (with_reducible refine AW_regionP 7 [3, 4, 6, 8, 26, 27, 28] ?_)
    | (with_reducible refine AW_regionP 8 [3, 4, 6, 9, 10, 26, 27, 28] ?_)
    | (with_reducible refine AW_regionP 9 [4] ?_)
    | (with_reducible refine AW_regionP 10 [3, 4, 6, 9, 26, 27, 28] ?_)
    | (with_reducible refine AW_regionP 11 [3, 4, 6, 26, 27, 28] ?_)
    | (with_reducible refine AW_regionP 12 [4, 6] ?_)
    | (refine callN_q (k := 18) fnok_18 (valid_p _ _ _ _ _) ?_ ?_)
    | (refine callGN_q (k := 64) fnok_64 (fun hg => sValid_p _ _) ?_ ?_)
    | (refine callN_q (k := 65) fnok_65 (add_p _ _ _ _) ?_ ?_)
    | (refine callGN_q (k := 53) fnok_53 (fun hg => isHeight_p _ _) ?_ ?_)
    | ((with_reducible refine AW_loopQ (c := (Code.seq (Code.region 5 _ _) _)) (ι := Nat) [3, 4, 6, 26, 27] (fun k => [(28, iA .i64 (k : Int))]) (fun k => [(3, [.iv (.g (.int .i64 s)), .iv (.g (.int .i64 st)), .slc 4 0 (k) 2]), (4, rowW (fW (sl lo hi b0 b1) (sh lo hi b0 b1) k))]) (fun k => k ≤ n ∧ (∀ i, i < k → aE (lo i) (hi i) b0 b1 = 0 ∧ hv (aL (lo i) (hi i) b0 b1) (aH (lo i) (hi i) b0 b1) = true)) (fun k => n - k) 0 ?lg5 ?l15 ?l25 ?li5 ?lr5); (case' lg5 => rintro k _); (case' li5 => try (exact ⟨Nat.zero_le _, fun i hi => absurd hi (Nat.not_lt_zero _)⟩)); (case' lr5 => rintro k ⟨h1, h2⟩ KR hR5; skip; simp only [keepE, hupd, hset, lk, if_true, if_false, Nat.reduceEqDiff, reduceIte, List.cons_append, List.nil_append, spanF0, spanF1, rowW_push, rowW_purge, rowW_len, fW_len, List.length_append, List.length_singleton, maxLen, callDK_t, zi_0, zi_1, zi_3, zi_6, zi_18, zn_0, zn_1, zn_3, zn_6, zn_18, hv0, hs]))
    | ((with_reducible refine hR5 _ (k + 1) ?_); (try clear hR5 KR))
    | ((with_reducible refine Told.mk ?_); simp only [go_sem, reduceIte, reduceCtorEq, Nat.reduceAdd, Nat.reduceLT, Nat.reduceLeDiff, Nat.reduceEqDiff, Nat.reduceMul, Nat.reduceSub, Nat.reduceBEq, spanF0, spanF1, rowW_push, rowW_purge, rowW_len, fW_len, List.length_append, List.length_singleton, maxLen, callDK_t, zi_0, zi_1, zi_3, zi_6, zi_18, zn_0, zn_1, zn_3, zn_6, zn_18, hv0, hs] <;> (first | exact True.intro | (((try simp (disch := omega) only [seaWrap, Int.natCast_add, Int.cast_ofNat_Int, and_true, true_and, and_self, fW_s]); (repeat' (first | exact True.intro | omega | rfl | (with_reducible assumption) | (with_reducible refine And.intro ?_ ?_) | (exact wkC_eq rfl (rowW_iv _)) | (exact all_succ (by assumption) (by assumption)) | (simp only [fW_s]))); done)) | (simp [fW, rowW, wkC]) | (refine Stuck.out ?_)))
    | ((fail_if_success (with_reducible show AW _ _ _ _)); simp (maxSteps := 2000000) only [go_sem, reduceIte, reduceCtorEq, Nat.reduceAdd, Nat.reduceLT, Nat.reduceLeDiff, Nat.reduceEqDiff, Nat.reduceMul, Nat.reduceSub, Nat.reduceBEq, Try.f29, zc_24, ty_24, fnok_18, ty_31, fnok_64, fo_24, of_24_0, ty_3, of_24_1, pl_24_0, pl_24_1, of_24_2, ty_22, le_22, sl_22, ar_22, zc_31, fnok_65, fnok_53, spanF0, spanF1, rowW_push, rowW_purge, rowW_len, fW_len, List.length_append, List.length_singleton, maxLen, callDK_t, zi_0, zi_1, zi_3, zi_6, zi_18, zn_0, zn_1, zn_3, zn_6, zn_18, hv0, hs])
    | ((fail_if_success (with_reducible show AW _ _ _ _)); simp (disch := omega) only [seaWrap, seaDiv, seaMod])
    | ((with_reducible refine hK _ ?_); clear hK K)
    | (with_reducible apply_assumption -exfalso))
  all_goals (first | (have e := gdB_f (n := n) (by assumption) (by assumption); rw [e]; exact ⟨⟨rfl, rfl, rfl⟩, rfl⟩) | (obtain rfl : k = n := (by omega); have e := gdB_t (n := k) (k := k) (by omega) h2; rw [e]; exact ⟨fun c hc => rowW_iv _ c hc, ⟨rfl, rfl, rfl, fun i o hi ho => fW_eqv _ _ _ _ _ hi ho⟩, rfl⟩))

theorem tshift_p (s st : Int) (n : Nat) (lo hi : Nat → Int) (b0 b1 : Int) : CallsP Try.prog 29 [tideP s st n lo hi, .agg [.g (.int .i64 (b0)), .g (.int .i64 (b1))]] (.tup [tideP (zi (shE s st n lo hi b0 b1) s) (zi (shE s st n lo hi b0 b1) st) (zn (shE s st n lo hi b0 b1) n) (sl lo hi b0 b1) (sh lo hi b0 b1), .one (.g (.int .i64 (shE s st n lo hi b0 b1)))]) := by
  unfold shE
  cases hh : (tval s st n lo hi && sv b0 b1) with
  | false => exact tshift_1 s st n lo hi b0 b1 hh
  | true =>
    simp only [Bool.and_eq_true] at hh
    exact tshift_x s st n lo hi b0 b1 hh.1 hh.2 (tval_tv hh.1).n1

set_option maxRecDepth 100000 in
set_option maxHeartbeats 4000000 in
theorem rshift_1 (s st : Int) (n : Nat) (lo hi : Nat → Int) (b0 b1 : Int) (hh : (tval s st n lo hi && sv b0 b1) = false) : CallsP Try.prog 30 [tideP s st n lo hi, .agg [.g (.int .i64 (b0)), .g (.int .i64 (b1))]] (.tup [tideP (zi (1) s) (zi (1) st) (zn (1) n) (sl lo hi b0 b1) (sh lo hi b0 b1), .one (.g (.int .i64 (1)))]) := by
  refine CallsP_of Try.func30 rfl (by rw [Try.ntmps30]; simp) ?_
  simp only [Try.ntmps30, List.map_cons, List.map_nil, PT.tv, argEnv, Nat.zero_add, Nat.reduceAdd]
  repeat' (first
    | (with_reducible refine AW_seq_k fun K hK => ?_)
    | ((first | (with_reducible refine And.intro ?_ ?_) | (with_reducible refine Need.mk ?_)); focus (first | exact True.intro | (with_reducible assumption) | omega | (refine ⟨?_, ?_⟩ <;> omega) | (intro _; first | exact True.intro | (with_reducible assumption) | omega) | (intros; (repeat' (first | exact True.intro | omega | (with_reducible assumption) | (with_reducible refine And.intro ?_ ?_))); done) | (simp (disch := omega) only [Bool.and_eq_true, Bool.or_eq_true, decide_eq_true_eq, bne_iff_ne, ne_eq] at *; first | done | omega | (intros; omega)) | (simp; done) | (simp; omega) | (simp +contextual; done) | (intro h; rw [h]; rfl) | (intros; simp_all; done)))
    | (with_reducible refine AW_skip ?_)
    | (with_reducible refine AW_exit ?_)
    | (with_reducible refine AW_ret ?_)
    | (with_reducible refine retK_n ?_)
    | (with_reducible refine retK_n' ?_)
    | (with_reducible refine retH_n rfl rfl rfl ?_)
    | (with_reducible refine retH_n' rfl rfl rfl ?_)
    | (with_reducible refine AW_condI ?_)
    | (with_reducible refine AW_block ?_)
    | ((with_reducible refine condN_t ?_ ?_) <;> (intro hc; (try simp only [Bool.and_eq_true, Bool.or_eq_true, Bool.not_eq_true', Bool.and_eq_false_iff, Bool.or_eq_false_iff, decide_eq_true_eq, decide_eq_false_iff_not, bne_iff_ne, beq_iff_eq, reduceCtorEq, bne_eq_false_iff_eq, beq_eq_false_iff_ne, Bool.not_eq_false', Int.not_le, Int.not_lt, Bool.not_not] at hc); (skip); (try (exfalso; first | contradiction | omega))))
    | (with_reducible refine AW_regionP 0 [0, 1] ?_)
    | (with_reducible refine AW_regionP 1 [2, 3, 4] ?_)
    | (with_reducible refine AW_regionP 2 [2, 3, 4, 6] ?_)
    | (with_reducible refine AW_regionP 3 [2, 3, 4, 6, 7] ?_)
    | (with_reducible refine AW_regionP 4 [4] ?_)
    | (with_reducible refine AW_regionP 5 [2, 3, 4] ?_)
    | (with_reducible refine AW_regionP 6 [2, 3, 4, 8] ?_)
    | (with_reducible refine AW_regionP 7 [2, 3, 4, 8, 9] ?_)
    | (with_reducible refine AW_regionP 8 [2, 3, 4, 8, 9] ?_)
    | ((with_reducible refine AW_prune (c := Code.region 9 _ true) [2, 3, 4, 8, 9] ?_); (with_reducible refine AW_regionD ?_ ?_ ?_ ?_); (focus kernel_rfl); (focus kernel_rfl); (focus kernel_rfl))
    | (with_reducible refine AW_regionP 10 [2, 3, 4, 8, 9, 10, 11] ?_)
    | (with_reducible refine AW_regionP 11 [2, 3, 4, 8, 9, 10, 11, 12] ?_)
    | (with_reducible refine AW_regionP 12 [4] ?_)
    | (with_reducible refine AW_regionP 13 [2, 3, 4, 8, 9, 10] ?_)
    | (with_reducible refine AW_regionP 14 [4, 8] ?_)
    | ((with_reducible refine And.intro ?_ ?_); focus ((with_reducible show chkR _ _ _ = true); kernel_rfl))
    | (refine callN_q (k := 17) fnok_17 (rvalid_p _ _ _ _ _) ?_ ?_)
    | (refine callN_q (k := 66) fnok_66 (rsValid_p _ _) ?_ ?_)
    | ((fail_if_success (with_reducible show AW _ _ _ _)); simp (maxSteps := 2000000) only [go_sem, reduceIte, reduceCtorEq, Nat.reduceAdd, Nat.reduceLT, Nat.reduceLeDiff, Nat.reduceEqDiff, Nat.reduceMul, Nat.reduceSub, Nat.reduceBEq, Try.f30, zc_24, ty_24, fnok_17, ty_31, fnok_66, fo_24, of_24_0, ty_3, of_24_1, pl_24_0, pl_24_1, of_24_2, ty_22, le_22, sl_22, ar_22, fnok_67, zc_31, fnok_51, zi_0, zi_1, zi_3, zi_6, zi_18, zn_0, zn_1, zn_3, zn_6, zn_18, hh])
    | ((fail_if_success (with_reducible show AW _ _ _ _)); simp (disch := omega) only [seaWrap, seaDiv, seaMod])
    | ((with_reducible refine hK _ ?_); clear hK K))
  all_goals (first | omega | (simp_all; done) | (simp_all; omega) | exact ⟨⟨rfl, rfl, ⟨rfl, rfl⟩, trivial⟩, rfl⟩ | exact ⟨rfl, fun i o _ _ => IV.eqv_refl _⟩ | exact fun i o _ _ => IV.eqv_refl _ | skip)

set_option maxRecDepth 100000 in
set_option maxHeartbeats 4000000 in
theorem rshift_x (s st : Int) (n : Nat) (lo hi : Nat → Int) (b0 b1 : Int) (hv0 : tval s st n lo hi = true) (hs : sv b0 b1 = true) (h200 : n ≤ 200) : CallsP Try.prog 30 [tideP s st n lo hi, .agg [.g (.int .i64 (b0)), .g (.int .i64 (b1))]] (.tup [tideP (zi (bif gdB n lo hi b0 b1 then 0 else 3) s) (zi (bif gdB n lo hi b0 b1 then 0 else 3) st) (zn (bif gdB n lo hi b0 b1 then 0 else 3) n) (sl lo hi b0 b1) (sh lo hi b0 b1), .one (.g (.int .i64 (bif gdB n lo hi b0 b1 then 0 else 3)))]) := by
  refine CallsP_of Try.func30 rfl (by rw [Try.ntmps30]; simp) ?_
  simp only [Try.ntmps30, List.map_cons, List.map_nil, PT.tv, argEnv, Nat.zero_add, Nat.reduceAdd]
  repeat' (first
    | (with_reducible refine AW_seq_k fun K hK => ?_)
    | ((first | (with_reducible refine And.intro ?_ ?_) | (with_reducible refine Need.mk ?_)); focus (first | exact True.intro | (with_reducible assumption) | omega | (refine ⟨?_, ?_⟩ <;> omega) | (intro _; first | exact True.intro | (with_reducible assumption) | omega) | (intros; (repeat' (first | exact True.intro | omega | (with_reducible assumption) | (with_reducible refine And.intro ?_ ?_))); done) | (simp (disch := omega) only [Bool.and_eq_true, Bool.or_eq_true, decide_eq_true_eq, bne_iff_ne, ne_eq] at *; first | done | omega | (intros; omega)) | (simp; done) | (simp; omega) | (simp +contextual; done) | (intro h; rw [h]; rfl) | (intros; simp_all; done)))
    | (with_reducible refine AW_skip ?_)
    | (with_reducible refine AW_exit ?_)
    | (with_reducible refine AW_ret ?_)
    | (with_reducible refine retK_n ?_)
    | (with_reducible refine retK_n' ?_)
    | (with_reducible refine retH_n rfl rfl rfl ?_)
    | (with_reducible refine retH_n' rfl rfl rfl ?_)
    | (with_reducible refine AW_condI ?_)
    | (with_reducible refine AW_block ?_)
    | ((with_reducible refine condN_t ?_ ?_) <;> (intro hc; (try simp only [Bool.and_eq_true, Bool.or_eq_true, Bool.not_eq_true', Bool.and_eq_false_iff, Bool.or_eq_false_iff, decide_eq_true_eq, decide_eq_false_iff_not, bne_iff_ne, beq_iff_eq, reduceCtorEq, bne_eq_false_iff_eq, beq_eq_false_iff_ne, Bool.not_eq_false', Int.not_le, Int.not_lt, Bool.not_not] at hc); (skip); (try (exfalso; first | contradiction | omega))))
    | (with_reducible refine AW_regionP 0 [0, 1] ?_)
    | (with_reducible refine AW_regionP 1 [2, 3, 4] ?_)
    | (with_reducible refine AW_regionP 2 [2, 3, 4, 6] ?_)
    | (with_reducible refine AW_regionP 3 [2, 3, 4, 6, 7] ?_)
    | (with_reducible refine AW_regionP 4 [4] ?_)
    | (with_reducible refine AW_regionP 5 [2, 3, 4] ?_)
    | (with_reducible refine AW_regionP 6 [2, 3, 4, 8] ?_)
    | (with_reducible refine AW_regionP 7 [2, 3, 4, 8, 9] ?_)
    | (with_reducible refine AW_regionP 8 [2, 3, 4, 8, 9] ?_)
    | ((with_reducible refine AW_prune (c := Code.region 9 _ true) [2, 3, 4, 8, 9] ?_); (with_reducible refine AW_regionD ?_ ?_ ?_ ?_); (focus kernel_rfl); (focus kernel_rfl); (focus kernel_rfl))
    | (with_reducible refine AW_regionP 10 [2, 3, 4, 8, 9, 10, 11] ?_)
    | (with_reducible refine AW_regionP 11 [2, 3, 4, 8, 9, 10, 11, 12] ?_)
    | (with_reducible refine AW_regionP 12 [4] ?_)
    | (with_reducible refine AW_regionP 13 [2, 3, 4, 8, 9, 10] ?_)
    | (with_reducible refine AW_regionP 14 [4, 8] ?_)
    | ((with_reducible refine And.intro ?_ ?_); focus ((with_reducible show chkR _ _ _ = true); kernel_rfl))
    | (refine callN_q (k := 17) fnok_17 (rvalid_p _ _ _ _ _) ?_ ?_)
    | (refine callN_q (k := 66) fnok_66 (rsValid_p _ _) ?_ ?_)
    | (refine callDN_q (k := 67) fnok_67 (radd_p _ _ _ _) ?_ ?_)
    | (refine callN_q (k := 51) fnok_51 (rHeight0_p _ _) ?_ ?_)
    | ((with_reducible refine AW_loopQ (c := (Code.seq (Code.seq (Code.region 7 _ _) _) _)) (ι := Nat) [2, 3, 4, 8] (fun k => [(9, iA .i64 (k : Int))]) (fun k => [(3, [.iv (.g (.int .i64 s)), .iv (.g (.int .i64 st)), .slc 4 0 (k) 2]), (4, rowW (fW (sl lo hi b0 b1) (sh lo hi b0 b1) k))]) (fun k => k ≤ n ∧ (∀ i, i < k → aE (lo i) (hi i) b0 b1 = 0 ∧ hv (aL (lo i) (hi i) b0 b1) (aH (lo i) (hi i) b0 b1) = true)) (fun k => n - k) 0 ?lg7 ?l17 ?l27 ?li7 ?lr7); (case' lg7 => rintro k _); (case' li7 => try (exact ⟨Nat.zero_le _, fun i hi => absurd hi (Nat.not_lt_zero _)⟩)); (case' lr7 => rintro k ⟨h1, h2⟩ KR hR7; skip; simp only [keepE, hupd, hset, lk, if_true, if_false, Nat.reduceEqDiff, reduceIte, List.cons_append, List.nil_append, spanF0, spanF1, rowW_push, rowW_purge, rowW_len, fW_len, List.length_append, List.length_singleton, maxLen, callDK_t, zi_0, zi_1, zi_3, zi_6, zi_18, zn_0, zn_1, zn_3, zn_6, zn_18, hv0, hs]))
    | ((with_reducible refine hR7 _ (k + 1) ?_); (try clear hR7 KR))
    | ((with_reducible refine Told.mk ?_); simp only [go_sem, reduceIte, reduceCtorEq, Nat.reduceAdd, Nat.reduceLT, Nat.reduceLeDiff, Nat.reduceEqDiff, Nat.reduceMul, Nat.reduceSub, Nat.reduceBEq, spanF0, spanF1, rowW_push, rowW_purge, rowW_len, fW_len, List.length_append, List.length_singleton, maxLen, callDK_t, zi_0, zi_1, zi_3, zi_6, zi_18, zn_0, zn_1, zn_3, zn_6, zn_18, hv0, hs] <;> (first | exact True.intro | (((try simp (disch := omega) only [seaWrap, Int.natCast_add, Int.cast_ofNat_Int, and_true, true_and, and_self, fW_s]); (repeat' (first | exact True.intro | omega | rfl | (with_reducible assumption) | (with_reducible refine And.intro ?_ ?_) | (exact wkC_eq rfl (rowW_iv _)) | (exact all_succ (by assumption) (by assumption)) | (simp only [fW_s]))); done)) | (simp [fW, rowW, wkC]) | (refine Stuck.out ?_)))
    | ((fail_if_success (with_reducible show AW _ _ _ _)); simp (maxSteps := 2000000) only [go_sem, reduceIte, reduceCtorEq, Nat.reduceAdd, Nat.reduceLT, Nat.reduceLeDiff, Nat.reduceEqDiff, Nat.reduceMul, Nat.reduceSub, Nat.reduceBEq, Try.f30, zc_24, ty_24, fnok_17, ty_31, fnok_66, fo_24, of_24_0, ty_3, of_24_1, pl_24_0, pl_24_1, of_24_2, ty_22, le_22, sl_22, ar_22, fnok_67, zc_31, fnok_51, spanF0, spanF1, rowW_push, rowW_purge, rowW_len, fW_len, List.length_append, List.length_singleton, maxLen, callDK_t, zi_0, zi_1, zi_3, zi_6, zi_18, zn_0, zn_1, zn_3, zn_6, zn_18, hv0, hs])
    | ((fail_if_success (with_reducible show AW _ _ _ _)); simp (disch := omega) only [seaWrap, seaDiv, seaMod])
    | ((with_reducible refine hK _ ?_); clear hK K)
    | (with_reducible apply_assumption -exfalso))
  all_goals (first | (have e := gdB_f (n := n) (by assumption) (by assumption); rw [e]; exact ⟨⟨rfl, rfl, rfl⟩, rfl⟩) | (obtain rfl : k = n := (by omega); have e := gdB_t (n := k) (k := k) (by omega) h2; rw [e]; exact ⟨fun c hc => rowW_iv _ c hc, ⟨rfl, rfl, rfl, fun i o hi ho => fW_eqv _ _ _ _ _ hi ho⟩, rfl⟩))

theorem rshift_p (s st : Int) (n : Nat) (lo hi : Nat → Int) (b0 b1 : Int) : CallsP Try.prog 30 [tideP s st n lo hi, .agg [.g (.int .i64 (b0)), .g (.int .i64 (b1))]] (.tup [tideP (zi (shE s st n lo hi b0 b1) s) (zi (shE s st n lo hi b0 b1) st) (zn (shE s st n lo hi b0 b1) n) (sl lo hi b0 b1) (sh lo hi b0 b1), .one (.g (.int .i64 (shE s st n lo hi b0 b1)))]) := by
  unfold shE
  cases hh : (tval s st n lo hi && sv b0 b1) with
  | false => exact rshift_1 s st n lo hi b0 b1 hh
  | true =>
    simp only [Bool.and_eq_true] at hh
    exact rshift_x s st n lo hi b0 b1 hh.1 hh.2 (tval_tv hh.1).n1

theorem spans_r (n : Nat) (lo hi : Nat → Int) (hn : n ≤ 1000000) : CallsP Try.prog 22 [.one (.lst 2 n (spanF lo hi)), .one (.lst 2 n (spanF lo hi))] (.t (.one (.g (.bool (true))))) := by
  have h := spans_p n n lo hi lo hi hn
  have e : sameL n n lo hi lo hi = true := decide_eq_true ⟨rfl, fun _ _ => ⟨rfl, rfl⟩⟩
  rw [e] at h; exact h

set_option maxRecDepth 100000 in
set_option maxHeartbeats 4000000 in
theorem same_r (s st : Int) (n : Nat) (lo hi : Nat → Int) (hn : n ≤ 1000000) : CallsP Try.prog 26 [tideP s st n lo hi, tideP s st n lo hi] (.t (.one (.g (.bool (true))))) := by
  refine CallsP_of Try.func26 rfl (by rw [Try.ntmps26]; simp) ?_
  simp only [Try.ntmps26, List.map_cons, List.map_nil, PT.tv, argEnv, Nat.zero_add, Nat.reduceAdd]
  repeat' (first
    | (with_reducible refine AW_seq_k fun K hK => ?_)
    | ((first | (with_reducible refine And.intro ?_ ?_) | (with_reducible refine Need.mk ?_)); focus (first | exact True.intro | (with_reducible assumption) | omega | (refine ⟨?_, ?_⟩ <;> omega) | (intro _; first | exact True.intro | (with_reducible assumption) | omega) | (intros; (repeat' (first | exact True.intro | omega | (with_reducible assumption) | (with_reducible refine And.intro ?_ ?_))); done) | (simp (disch := omega) only [Bool.and_eq_true, Bool.or_eq_true, decide_eq_true_eq, bne_iff_ne, ne_eq] at *; first | done | omega | (intros; omega)) | (simp; done) | (simp; omega) | (simp +contextual; done) | (intro h; rw [h]; rfl) | (intros; simp_all; done)))
    | (with_reducible refine AW_skip ?_)
    | (with_reducible refine AW_exit ?_)
    | (with_reducible refine AW_ret ?_)
    | (with_reducible refine retK_n ?_)
    | (with_reducible refine retK_n' ?_)
    | (with_reducible refine retH_n rfl rfl rfl ?_)
    | (with_reducible refine retH_n' rfl rfl rfl ?_)
    | (with_reducible refine AW_condI ?_)
    | (with_reducible refine AW_block ?_)
    | ((with_reducible refine condN_t ?_ ?_) <;> (intro hc; (try simp only [Bool.and_eq_true, Bool.or_eq_true, Bool.not_eq_true', Bool.and_eq_false_iff, Bool.or_eq_false_iff, decide_eq_true_eq, decide_eq_false_iff_not, bne_iff_ne, beq_iff_eq, reduceCtorEq, bne_eq_false_iff_eq, beq_eq_false_iff_ne, Bool.not_eq_false', Int.not_le, Int.not_lt, Bool.not_not] at hc); (try (exfalso; first | contradiction | omega))))
    | (with_reducible refine AW_regionP 0 [0, 1] ?_)
    | (with_reducible refine AW_regionP 1 [2, 3] ?_)
    | (refine callGN_q (k := 22) fnok_22 (fun hg => spans_r _ _ _ hn) ?_ ?_)
    | ((fail_if_success (with_reducible show AW _ _ _ _)); simp (maxSteps := 2000000) only [go_sem, reduceIte, reduceCtorEq, Nat.reduceAdd, Nat.reduceLT, Nat.reduceLeDiff, Nat.reduceEqDiff, Nat.reduceMul, Nat.reduceSub, Nat.reduceBEq, Try.f26, of_24_0, ty_3, of_24_1, of_24_2, ty_22, fnok_22])
    | ((with_reducible refine hK _ ?_); clear hK K))

set_option maxRecDepth 100000 in
set_option maxHeartbeats 4000000 in
theorem table6_p  : CallsP Try.prog 47 [] (.t (tideP 100 10 3 tabL tabH)) := by
  refine CallsP_of Try.func47 rfl (by rw [Try.ntmps47]; simp) ?_
  simp only [Try.ntmps47, List.map_cons, List.map_nil, PT.tv, argEnv, Nat.zero_add, Nat.reduceAdd]
  repeat' (first
    | (with_reducible refine AW_seq_k fun K hK => ?_)
    | ((first | (with_reducible refine And.intro ?_ ?_) | (with_reducible refine Need.mk ?_)); focus (first | exact True.intro | (with_reducible assumption) | omega | (refine ⟨?_, ?_⟩ <;> omega) | (intro _; first | exact True.intro | (with_reducible assumption) | omega) | (intros; (repeat' (first | exact True.intro | omega | (with_reducible assumption) | (with_reducible refine And.intro ?_ ?_))); done) | (simp (disch := omega) only [Bool.and_eq_true, Bool.or_eq_true, decide_eq_true_eq, bne_iff_ne, ne_eq] at *; first | done | omega | (intros; omega)) | (simp; done) | (simp; omega) | (simp +contextual; done) | (intro h; rw [h]; rfl) | (intros; simp_all; done)))
    | (with_reducible refine AW_skip ?_)
    | (with_reducible refine AW_exit ?_)
    | (with_reducible refine AW_ret ?_)
    | (with_reducible refine retK_n ?_)
    | (with_reducible refine retK_n' ?_)
    | (with_reducible refine retH_n rfl rfl rfl ?_)
    | (with_reducible refine retH_n' rfl rfl rfl ?_)
    | (with_reducible refine AW_condI ?_)
    | (with_reducible refine AW_block ?_)
    | ((with_reducible refine condN_t ?_ ?_) <;> (intro hc; (try simp only [Bool.and_eq_true, Bool.or_eq_true, Bool.not_eq_true', Bool.and_eq_false_iff, Bool.or_eq_false_iff, decide_eq_true_eq, decide_eq_false_iff_not, bne_iff_ne, beq_iff_eq, reduceCtorEq, bne_eq_false_iff_eq, beq_eq_false_iff_ne, Bool.not_eq_false', Int.not_le, Int.not_lt, Bool.not_not] at hc); (try (exfalso; first | contradiction | omega))))
    | (with_reducible refine AW_regionP 0 [] ?_)
    | (with_reducible refine AW_regionP 1 [0] ?_)
    | ((fail_if_success (with_reducible show AW _ _ _ _)); simp (maxSteps := 2000000) only [go_sem, reduceIte, reduceCtorEq, Nat.reduceAdd, Nat.reduceLT, Nat.reduceLeDiff, Nat.reduceEqDiff, Nat.reduceMul, Nat.reduceSub, Nat.reduceBEq, Try.f47, zc_24, zc_31, fo_31, pl_31_0, pl_31_1, sl_22, fo_24, pl_24_0, pl_24_1, pl_24_2, ty_24])
    | ((with_reducible refine hK _ ?_); clear hK K))
  all_goals (intro i o hi ho; (rcases i with _ | _ | _ | i) <;> (rcases o with _ | _ | o) <;> first | omega | exact IV.eqv_refl _)

def litL : Nat → Int
  | 0 => 6
  | 1 => 12
  | _ => 0
def litH : Nat → Int
  | 0 => 9
  | 1 => 13
  | _ => 8
def mtL : Nat → Int
  | 0 => 6
  | 1 => 12
  | _ => 8
def mtH : Nat → Int
  | 0 => 7
  | 1 => 12
  | _ => 8
def stL : Nat → Int
  | 0 => 4
  | 1 => 8
  | _ => 7
def stH : Nat → Int
  | 0 => 8
  | 1 => 13
  | _ => 9
theorem y_h1 : HL 100 10 3 tabL tabH 100 100 = 5 ∧ HH 100 10 3 tabL tabH 100 100 = 7 ∧ HE 100 10 3 tabL tabH 100 100 = 0 := by decide +kernel
theorem z_h1 : CallsP Try.prog 19 [tideP 100 10 3 tabL tabH, .one (.g (.int .i64 (100))), .one (.g (.int .i64 (100)))] (.tup [.agg [.g (.int .i64 (5)), .g (.int .i64 (7))], .one (.g (.int .i64 (0)))]) := by
  have r := height_p 100 10 3 tabL tabH 100 100
  rw [y_h1.1, y_h1.2.1, y_h1.2.2] at r; exact r
theorem y_h2 : HL 100 10 3 tabL tabH 101 101 = 5 ∧ HH 100 10 3 tabL tabH 101 101 = 12 ∧ HE 100 10 3 tabL tabH 101 101 = 0 := by decide +kernel
theorem z_h2 : CallsP Try.prog 19 [tideP 100 10 3 tabL tabH, .one (.g (.int .i64 (101))), .one (.g (.int .i64 (101)))] (.tup [.agg [.g (.int .i64 (5)), .g (.int .i64 (12))], .one (.g (.int .i64 (0)))]) := by
  have r := height_p 100 10 3 tabL tabH 101 101
  rw [y_h2.1, y_h2.2.1, y_h2.2.2] at r; exact r
theorem y_h3 : HL 100 10 3 tabL tabH 100 120 = 5 ∧ HH 100 10 3 tabL tabH 100 120 = 12 ∧ HE 100 10 3 tabL tabH 100 120 = 0 := by decide +kernel
theorem z_h3 : CallsP Try.prog 19 [tideP 100 10 3 tabL tabH, .one (.g (.int .i64 (100))), .one (.g (.int .i64 (120)))] (.tup [.agg [.g (.int .i64 (5)), .g (.int .i64 (12))], .one (.g (.int .i64 (0)))]) := by
  have r := height_p 100 10 3 tabL tabH 100 120
  rw [y_h3.1, y_h3.2.1, y_h3.2.2] at r; exact r
theorem y_w1 : WS 100 10 3 tabL tabH 8 = [(110, 120)] ∧ WE 100 10 3 tabL tabH 8 = 0 := by decide +kernel
theorem z_w1 : CallsP Try.prog 15 [tideP 100 10 3 tabL tabH, .one (.g (.int .i64 (8)))] (.tup [.one (.lst 2 ([((110 : Int), (120 : Int))].length) (spanF (L1 [(110, 120)]) (L2 [(110, 120)]))), .one (.g (.int .i64 (0)))]) := by
  have r := windows_p 100 10 3 tabL tabH 8
  rw [y_w1.1, y_w1.2] at r; exact r
theorem y_w2 : WS 100 10 3 tabL tabH 9 = [(110, 110)] ∧ WE 100 10 3 tabL tabH 9 = 0 := by decide +kernel
theorem z_w2 : CallsP Try.prog 15 [tideP 100 10 3 tabL tabH, .one (.g (.int .i64 (9)))] (.tup [.one (.lst 2 ([((110 : Int), (110 : Int))].length) (spanF (L1 [(110, 110)]) (L2 [(110, 110)]))), .one (.g (.int .i64 (0)))]) := by
  have r := windows_p 100 10 3 tabL tabH 9
  rw [y_w2.1, y_w2.2] at r; exact r
theorem y_w3 : WS 100 10 3 tabL tabH 6 = [(110, 120)] ∧ WE 100 10 3 tabL tabH 6 = 0 := by decide +kernel
theorem z_w3 : CallsP Try.prog 15 [tideP 100 10 3 tabL tabH, .one (.g (.int .i64 (6)))] (.tup [.one (.lst 2 ([((110 : Int), (120 : Int))].length) (spanF (L1 [(110, 120)]) (L2 [(110, 120)]))), .one (.g (.int .i64 (0)))]) := by
  have r := windows_p 100 10 3 tabL tabH 6
  rw [y_w3.1, y_w3.2] at r; exact r
theorem y_n1 : NV 100 10 3 tabL tabH 8 100 10 = 110 ∧ NE 100 10 3 tabL tabH 8 100 10 = 0 := by decide +kernel
theorem z_n1 : CallsP Try.prog 16 [tideP 100 10 3 tabL tabH, .one (.g (.int .i64 (8))), .one (.g (.int .i64 (100))), .one (.g (.int .i64 (10)))] (.tup [.one (.g (.int .i64 (110))), .one (.g (.int .i64 (0)))]) := by
  have r := tnext_p 100 10 3 tabL tabH 8 100 10
  rw [y_n1.1, y_n1.2] at r; exact r
theorem y_n2 : NV 100 10 3 tabL tabH 8 100 11 = 0 ∧ NE 100 10 3 tabL tabH 8 100 11 = 4 := by decide +kernel
theorem z_n2 : CallsP Try.prog 16 [tideP 100 10 3 tabL tabH, .one (.g (.int .i64 (8))), .one (.g (.int .i64 (100))), .one (.g (.int .i64 (11)))] (.tup [.one (.g (.int .i64 (0))), .one (.g (.int .i64 (4)))]) := by
  have r := tnext_p 100 10 3 tabL tabH 8 100 11
  rw [y_n2.1, y_n2.2] at r; exact r
theorem y_m : mtE 100 10 100 10 3 3 tabL tabH litL litH = 0 := by decide +kernel
theorem y_s : shE 100 10 3 tabL tabH (-1) 1 = 0 := by decide +kernel
theorem y_sm : sameL 3 3 (ml tabL tabH litL litH) (mh tabL tabH litL litH) mtL mtH = true := by decide +kernel
theorem y_ss : sameL 3 3 (sl tabL tabH (-1) 1) (sh tabL tabH (-1) 1) stL stH = true := by decide +kernel
theorem y_x1 : sameL 1 1 (L1 [(110, 120)]) (L2 [(110, 120)]) (fun _ => 110) (fun _ => 120) = true := by decide +kernel
theorem y_x2 : sameL 1 1 (L1 [(110, 110)]) (L2 [(110, 110)]) (fun _ => 110) (fun _ => 110) = true := by decide +kernel
theorem y_v : tval 100 10 3 tabL tabH = true ∧ tval 0 0 0 (fun _ => 0) (fun _ => 0) = false := by decide +kernel
theorem z_m : CallsP Try.prog 24 [tideP 100 10 3 tabL tabH, tideP 100 10 3 litL litH] (.tup [tideP 100 10 3 (ml tabL tabH litL litH) (mh tabL tabH litL litH), .one (.g (.int .i64 (0)))]) := by
  have r := tm_p 100 10 100 10 3 3 tabL tabH litL litH
  rw [y_m, zi_0, zi_0, zn_0] at r; exact r
theorem z_s : CallsP Try.prog 29 [tideP 100 10 3 tabL tabH, .agg [.g (.int .i64 (-1)), .g (.int .i64 (1))]] (.tup [tideP 100 10 3 (sl tabL tabH (-1) 1) (sh tabL tabH (-1) 1), .one (.g (.int .i64 (0)))]) := by
  have r := tshift_p 100 10 3 tabL tabH (-1) 1
  rw [y_s, zi_0, zi_0, zn_0] at r; exact r
theorem z_c1 : CallsP Try.prog 22 [.one (.lst 2 ([((110 : Int), (120 : Int))].length) (spanF (L1 [(110, 120)]) (L2 [(110, 120)]))), .one (.lst 2 1 (spanF (fun _ => 110) (fun _ => 120)))] (.t (.one (.g (.bool (true))))) := by
  have r := spans_p 1 1 (L1 [(110, 120)]) (L2 [(110, 120)]) (fun _ => 110) (fun _ => 120) (by omega)
  rw [y_x1] at r; exact r
theorem z_c2 : CallsP Try.prog 22 [.one (.lst 2 ([((110 : Int), (110 : Int))].length) (spanF (L1 [(110, 110)]) (L2 [(110, 110)]))), .one (.lst 2 1 (spanF (fun _ => 110) (fun _ => 110)))] (.t (.one (.g (.bool (true))))) := by
  have r := spans_p 1 1 (L1 [(110, 110)]) (L2 [(110, 110)]) (fun _ => 110) (fun _ => 110) (by omega)
  rw [y_x2] at r; exact r
theorem z_c3 : CallsP Try.prog 22 [.one (.lst 2 ([((110 : Int), (120 : Int))].length) (spanF (L1 [(110, 120)]) (L2 [(110, 120)]))), .one (.lst 2 ([((110 : Int), (120 : Int))].length) (spanF (L1 [(110, 120)]) (L2 [(110, 120)])))] (.t (.one (.g (.bool (true))))) := spans_r _ _ _ (by simp)
theorem z_cm : CallsP Try.prog 22 [.one (.lst 2 3 (spanF (ml tabL tabH litL litH) (mh tabL tabH litL litH))), .one (.lst 2 3 (spanF mtL mtH))] (.t (.one (.g (.bool (true))))) := by
  have r := spans_p 3 3 (ml tabL tabH litL litH) (mh tabL tabH litL litH) mtL mtH (by omega)
  rw [y_sm] at r; exact r
theorem z_cs : CallsP Try.prog 22 [.one (.lst 2 3 (spanF (sl tabL tabH (-1) 1) (sh tabL tabH (-1) 1))), .one (.lst 2 3 (spanF stL stH))] (.t (.one (.g (.bool (true))))) := by
  have r := spans_p 3 3 (sl tabL tabH (-1) 1) (sh tabL tabH (-1) 1) stL stH (by omega)
  rw [y_ss] at r; exact r
theorem z_v1 : CallsP Try.prog 18 [tideP 100 10 3 tabL tabH] (.t (.one (.g (.bool (true))))) := by
  have r := valid_p 100 10 3 tabL tabH
  rw [y_v.1] at r; exact r
theorem z_v2 : CallsP Try.prog 18 [tideP 0 0 0 (fun _ => 0) (fun _ => 0)] (.t (.one (.g (.bool (false))))) := by
  have r := valid_p 0 0 0 (fun _ => 0) (fun _ => 0)
  rw [y_v.2] at r; exact r

set_option maxRecDepth 100000 in
set_option maxHeartbeats 4000000 in
theorem head6_p  : CallsP Try.prog 13 [] (.t (.one (.g (.bool (true))))) := by
  refine CallsP_of Try.func13 rfl (by rw [Try.ntmps13]; simp) ?_
  simp only [Try.ntmps13, List.map_cons, List.map_nil, PT.tv, argEnv, Nat.zero_add, Nat.reduceAdd]
  repeat' (first
    | (with_reducible refine AW_seq_k fun K hK => ?_)
    | ((first | (with_reducible refine And.intro ?_ ?_) | (with_reducible refine Need.mk ?_)); focus (first | exact True.intro | (with_reducible assumption) | omega | (refine ⟨?_, ?_⟩ <;> omega) | (intro _; first | exact True.intro | (with_reducible assumption) | omega) | (intros; (repeat' (first | exact True.intro | omega | (with_reducible assumption) | (with_reducible refine And.intro ?_ ?_))); done) | (simp (disch := omega) only [Bool.and_eq_true, Bool.or_eq_true, decide_eq_true_eq, bne_iff_ne, ne_eq] at *; first | done | omega | (intros; omega)) | (simp; done) | (simp; omega) | (simp +contextual; done) | (intro h; rw [h]; rfl) | (intros; simp_all; done)))
    | (with_reducible refine AW_skip ?_)
    | (with_reducible refine AW_exit ?_)
    | (with_reducible refine AW_ret ?_)
    | (with_reducible refine retK_n ?_)
    | (with_reducible refine retK_n' ?_)
    | (with_reducible refine retH_n rfl rfl rfl ?_)
    | (with_reducible refine retH_n' rfl rfl rfl ?_)
    | (with_reducible refine AW_condI ?_)
    | (with_reducible refine AW_block ?_)
    | ((with_reducible refine condN_t ?_ ?_) <;> (intro hc; (try simp only [Bool.and_eq_true, Bool.or_eq_true, Bool.not_eq_true', Bool.and_eq_false_iff, Bool.or_eq_false_iff, decide_eq_true_eq, decide_eq_false_iff_not, bne_iff_ne, beq_iff_eq, reduceCtorEq, bne_eq_false_iff_eq, beq_eq_false_iff_ne, Bool.not_eq_false', Int.not_le, Int.not_lt, Bool.not_not] at hc); (try (exfalso; first | contradiction | omega))))
    | (with_reducible refine AW_regionP 0 [] ?_)
    | (with_reducible refine AW_regionP 1 [] ?_)
    | (with_reducible refine AW_regionP 2 [1, 2] ?_)
    | (with_reducible refine AW_regionP 3 [1, 2, 3, 4] ?_)
    | (with_reducible refine AW_regionP 4 [1, 2, 3, 4, 5, 6] ?_)
    | (with_reducible refine AW_regionP 5 [7] ?_)
    | (with_reducible refine AW_regionP 6 [2, 7, 8] ?_)
    | (with_reducible refine AW_regionP 7 [2, 4, 7, 8, 9] ?_)
    | (with_reducible refine AW_regionP 8 [2, 4, 6, 7, 8, 9, 10] ?_)
    | (with_reducible refine AW_regionP 9 [7] ?_)
    | (with_reducible refine AW_regionP 10 [2, 7, 11] ?_)
    | (with_reducible refine AW_regionP 11 [2, 4, 7, 11] ?_)
    | (with_reducible refine AW_regionP 12 [2, 4, 6, 7, 11, 12] ?_)
    | (with_reducible refine AW_regionP 13 [2, 4, 6, 7, 11, 12, 13, 14] ?_)
    | (with_reducible refine AW_regionP 14 [7, 12, 13] ?_)
    | (with_reducible refine AW_regionP 15 [7] ?_)
    | (refine callN_q (k := 47) fnok_47 (table6_p) ?_ ?_)
    | (refine callGN_q (k := 47) fnok_47 (fun hg => table6_p) ?_ ?_)
    | (refine callN_q (k := 19) fnok_19 (z_h1) ?_ ?_)
    | (refine callN_q (k := 19) fnok_19 (z_h2) ?_ ?_)
    | (refine callN_q (k := 19) fnok_19 (z_h3) ?_ ?_)
    | (refine callN_q (k := 15) fnok_15 (z_w1) ?_ ?_)
    | (refine callN_q (k := 15) fnok_15 (z_w2) ?_ ?_)
    | (refine callN_q (k := 15) fnok_15 (z_w3) ?_ ?_)
    | (refine callN_q (k := 16) fnok_16 (z_n1) ?_ ?_)
    | (refine callN_q (k := 16) fnok_16 (z_n2) ?_ ?_)
    | (refine callGN_q (k := 22) fnok_22 (fun hg => z_c3) ?_ ?_)
    | (refine callGN_q (k := 22) fnok_22 (fun hg => z_c1.eqv (⟨IV.eqv_refl _, ⟨rfl, rfl, fun i o hi ho => by (rcases i with _ | _ | _ | i) <;> (rcases o with _ | _ | o) <;> first | omega | exact IV.eqv_refl _⟩, trivial⟩) (PV.eqv_refl _)) ?_ ?_)
    | (refine callGN_q (k := 22) fnok_22 (fun hg => z_c2.eqv (⟨IV.eqv_refl _, ⟨rfl, rfl, fun i o hi ho => by (rcases i with _ | _ | _ | i) <;> (rcases o with _ | _ | o) <;> first | omega | exact IV.eqv_refl _⟩, trivial⟩) (PV.eqv_refl _)) ?_ ?_)
    | (refine callGN_q (k := 22) fnok_22 (fun hg => z_cm.eqv (⟨IV.eqv_refl _, ⟨rfl, rfl, fun i o hi ho => by (rcases i with _ | _ | _ | i) <;> (rcases o with _ | _ | o) <;> first | omega | exact IV.eqv_refl _⟩, trivial⟩) (PV.eqv_refl _)) ?_ ?_)
    | (refine callGN_q (k := 22) fnok_22 (fun hg => z_cs.eqv (⟨IV.eqv_refl _, ⟨rfl, rfl, fun i o hi ho => by (rcases i with _ | _ | _ | i) <;> (rcases o with _ | _ | o) <;> first | omega | exact IV.eqv_refl _⟩, trivial⟩) (PV.eqv_refl _)) ?_ ?_)
    | (refine callN_q (k := 24) fnok_24 (z_m.eqv (⟨⟨rfl, rfl, IV.eqv_refl _, trivial⟩, ⟨rfl, rfl, ⟨rfl, rfl, fun i o hi ho => by (rcases i with _ | _ | _ | i) <;> (rcases o with _ | _ | o) <;> first | omega | exact IV.eqv_refl _⟩, trivial⟩, trivial⟩) (PV.eqv_refl _)) ?_ ?_)
    | (refine callN_q (k := 29) fnok_29 (z_s) ?_ ?_)
    | (refine callGN_q (k := 18) fnok_18 (fun hg => z_v1) ?_ ?_)
    | (refine callGN_q (k := 18) fnok_18 (fun hg => z_v2.eqv (⟨⟨rfl, rfl, ⟨rfl, rfl⟩, trivial⟩, trivial⟩) (PV.eqv_refl _)) ?_ ?_)
    | (refine callN_zq (k := 24) [5] ?_ ?_)
    | ((fail_if_success (with_reducible show AW _ _ _ _)); simp (maxSteps := 2000000) only [go_sem, reduceIte, reduceCtorEq, Nat.reduceAdd, Nat.reduceLT, Nat.reduceLeDiff, Nat.reduceEqDiff, Nat.reduceMul, Nat.reduceSub, Nat.reduceBEq, Try.f13, fnok_47, fnok_19, zc_31, ty_31, fo_31, pl_31_0, pl_31_1, bo_31, eq_31, fnok_15, sl_22, fnok_22, fnok_16, zc_24, fo_24, pl_24_0, pl_24_1, pl_24_2, fnok_24, ty_24, fnok_29, of_24_2, ty_22, fnok_18, Int.reduceBEq, Int.reduceBNe])
    | ((with_reducible refine hK _ ?_); clear hK K))
  all_goals skip

theorem zn_bd {s st s' st' : Int} {n n' : Nat} {lo hi lo' hi' : Nat → Int} : zn (mtE s st s' st' n n' lo hi lo' hi') n ≤ 1000000 ∧ zn (jtE s st s' st' n n' lo hi lo' hi') n ≤ 1000000 ∧ ∀ b0 b1, zn (shE s st n lo hi b0 b1) n ≤ 1000000 := by
  have a : tval s st n lo hi = true → n ≤ 1000000 := fun h => by have := (tval_tv h).n1; omega
  cases h : tval s st n lo hi with
  | true =>
    have := a h
    refine ⟨?_, ?_, fun b0 b1 => ?_⟩ <;> (unfold zn; split <;> omega)
  | false =>
    refine ⟨?_, ?_, fun b0 b1 => ?_⟩
    · simp [zn, mtE, bE, h]
    · simp [zn, jtE, bE, h]
    · simp [zn, shE, h]

set_option maxRecDepth 100000 in
set_option maxHeartbeats 4000000 in
theorem law4 (s st s' st' : Int) (n n' : Nat) (lo hi lo' hi' : Nat → Int) (b0 b1 need f u : Int) : CallsP Try.prog 4 [tideP s st n lo hi, tideP s' st' n' lo' hi', .agg [.g (.int .i64 (b0)), .g (.int .i64 (b1))], .one (.g (.int .i64 (need))), .one (.g (.int .i64 (f))), .one (.g (.int .i64 (u)))] (.t (.one (.g (.bool true)))) := by
  have hw : (WS s st n lo hi need).length ≤ 1000000 := by have := (ws_ok s st n lo hi need).2; omega
  have hz := zn_bd (s := s) (st := st) (s' := s') (st' := st') (n := n) (n' := n') (lo := lo) (hi := hi) (lo' := lo') (hi' := hi')
  refine CallsP_of Try.func4 rfl (by rw [Try.ntmps4]; simp) ?_
  simp only [Try.ntmps4, List.map_cons, List.map_nil, PT.tv, argEnv, Nat.zero_add, Nat.reduceAdd]
  repeat' (first
    | (with_reducible refine AW_seq_k fun K hK => ?_)
    | ((first | (with_reducible refine And.intro ?_ ?_) | (with_reducible refine Need.mk ?_)); focus (first | exact True.intro | (with_reducible assumption) | omega | (refine ⟨?_, ?_⟩ <;> omega) | (intro _; first | exact True.intro | (with_reducible assumption) | omega) | (intros; (repeat' (first | exact True.intro | omega | (with_reducible assumption) | (with_reducible refine And.intro ?_ ?_))); done) | (simp (disch := omega) only [Bool.and_eq_true, Bool.or_eq_true, decide_eq_true_eq, bne_iff_ne, ne_eq] at *; first | done | omega | (intros; omega)) | (simp; done) | (simp; omega) | (simp +contextual; done) | (intro h; rw [h]; rfl) | (intros; simp_all; done)))
    | (with_reducible refine AW_skip ?_)
    | (with_reducible refine AW_exit ?_)
    | (with_reducible refine AW_ret ?_)
    | (with_reducible refine retK_n ?_)
    | (with_reducible refine retK_n' ?_)
    | (with_reducible refine retH_n rfl rfl rfl ?_)
    | (with_reducible refine retH_n' rfl rfl rfl ?_)
    | (with_reducible refine AW_condI ?_)
    | (with_reducible refine AW_block ?_)
    | ((with_reducible refine condN_t ?_ ?_) <;> (intro hc; (try simp only [Bool.and_eq_true, Bool.or_eq_true, Bool.not_eq_true', Bool.and_eq_false_iff, Bool.or_eq_false_iff, decide_eq_true_eq, decide_eq_false_iff_not, bne_iff_ne, beq_iff_eq, reduceCtorEq, bne_eq_false_iff_eq, beq_eq_false_iff_ne, Bool.not_eq_false', Int.not_le, Int.not_lt, Bool.not_not] at hc); (skip); (try (exfalso; first | contradiction | omega))))
    | (with_reducible refine AW_regionP 0 [0, 1, 2, 3, 4, 5] ?_)
    | (with_reducible refine AW_regionP 1 [3, 4, 5, 6, 7, 8] ?_)
    | (with_reducible refine AW_regionP 2 [3, 4, 5, 6, 7, 8, 13] ?_)
    | (with_reducible refine AW_regionP 3 [13] ?_)
    | ((with_reducible refine AW_prune (c := Code.region 4 _ true) [3, 4, 5, 6, 7, 8, 13] ?_); (with_reducible refine AW_regionD ?_ ?_ ?_ ?_); (focus kernel_rfl); (focus kernel_rfl); (focus kernel_rfl))
    | (with_reducible refine AW_regionP 5 [3, 4, 5, 6, 7, 8, 13] ?_)
    | (with_reducible refine AW_regionP 6 [3, 4, 5, 6, 7, 8, 13, 14, 15] ?_)
    | (with_reducible refine AW_regionP 7 [3, 4, 5, 6, 7, 8, 13, 14, 15, 16, 17] ?_)
    | (with_reducible refine AW_regionP 8 [3, 4, 5, 6, 7, 8, 13] ?_)
    | (with_reducible refine AW_regionP 9 [3, 4, 5, 6, 7, 8, 13, 15, 18] ?_)
    | (with_reducible refine AW_regionP 10 [3, 4, 5, 6, 7, 8, 13, 15, 17, 18, 19] ?_)
    | (with_reducible refine AW_regionP 11 [3, 4, 5, 6, 7, 8, 13] ?_)
    | (with_reducible refine AW_regionP 12 [3, 4, 5, 6, 7, 8, 13, 15, 20] ?_)
    | (with_reducible refine AW_regionP 13 [6, 7, 8, 13, 15, 17, 20, 21] ?_)
    | (with_reducible refine AW_regionP 14 [6, 7, 8, 13] ?_)
    | (with_reducible refine AW_regionP 15 [6, 7, 8, 13, 15, 22] ?_)
    | (with_reducible refine AW_regionP 16 [6, 7, 8, 13, 15, 17, 22, 23] ?_)
    | (with_reducible refine AW_regionP 17 [6, 7, 8, 13, 22, 23] ?_)
    | (with_reducible refine AW_regionP 18 [6, 7, 8, 13, 15, 22, 23] ?_)
    | (with_reducible refine AW_regionP 19 [6, 8, 13, 15, 17, 22, 23] ?_)
    | (with_reducible refine AW_regionP 20 [6, 8, 13, 22, 23] ?_)
    | (with_reducible refine AW_regionP 21 [6, 8, 13, 15, 22, 23] ?_)
    | (with_reducible refine AW_regionP 22 [13, 15, 17, 22, 23] ?_)
    | ((with_reducible refine And.intro ?_ ?_); focus ((with_reducible show chkR _ _ _ = true); kernel_rfl))
    | (refine callN_q (k := 13) fnok_13 (head6_p) ?_ ?_)
    | (refine callN_q (k := 14) fnok_14 (few_p _ _ _ _ _) ?_ ?_)
    | (refine callGN_q (k := 14) fnok_14 (fun hg => few_p _ _ _ _ _) ?_ ?_)
    | (refine callDGN_q (k := 17) fnok_17 (fun hg => rvalid_p _ _ _ _ _) ?_ ?_)
    | (refine callGN_q (k := 17) fnok_17 (fun hg => rvalid_p _ _ _ _ _) ?_ ?_)
    | (refine callDGN_q (k := 18) fnok_18 (fun hg => valid_p _ _ _ _ _) ?_ ?_)
    | (refine callN_q (k := 19) fnok_19 (height_p _ _ _ _ _ _ _) ?_ ?_)
    | (refine callN_q (k := 20) fnok_20 (rheight_p _ _ _ _ _ _ _) ?_ ?_)
    | (refine callN_q (k := 15) fnok_15 (windows_p _ _ _ _ _ _) ?_ ?_)
    | (refine callN_q (k := 21) fnok_21 (rwindows_p _ _ _ _ _ _) ?_ ?_)
    | (refine callGN_q (k := 22) fnok_22 (fun hg => spans_r _ _ _ hw) ?_ ?_)
    | (refine callN_q (k := 16) fnok_16 (tnext_p _ _ _ _ _ _ _ _) ?_ ?_)
    | (refine callN_q (k := 23) fnok_23 (rnext_p _ _ _ _ _ _ _ _) ?_ ?_)
    | (refine callN_q (k := 24) fnok_24 (tm_p _ _ _ _ _ _ _ _ _ _) ?_ ?_)
    | (refine callN_q (k := 25) fnok_25 (rm_p _ _ _ _ _ _ _ _ _ _) ?_ ?_)
    | (refine callN_q (k := 27) fnok_27 (tj_p _ _ _ _ _ _ _ _ _ _) ?_ ?_)
    | (refine callN_q (k := 28) fnok_28 (rj_p _ _ _ _ _ _ _ _ _ _) ?_ ?_)
    | (refine callN_q (k := 29) fnok_29 (tshift_p _ _ _ _ _ _ _) ?_ ?_)
    | (refine callN_q (k := 30) fnok_30 (rshift_p _ _ _ _ _ _ _) ?_ ?_)
    | (refine callGN_q (k := 26) fnok_26 (fun hg => same_r _ _ _ _ _ hz.1) ?_ ?_)
    | (refine callGN_q (k := 26) fnok_26 (fun hg => same_r _ _ _ _ _ hz.2.1) ?_ ?_)
    | (refine callGN_q (k := 26) fnok_26 (fun hg => same_r _ _ _ _ _ (hz.2.2 _ _)) ?_ ?_)
    | ((fail_if_success (with_reducible show AW _ _ _ _)); simp (maxSteps := 2000000) only [go_sem, reduceIte, reduceCtorEq, Nat.reduceAdd, Nat.reduceLT, Nat.reduceLeDiff, Nat.reduceEqDiff, Nat.reduceMul, Nat.reduceSub, Nat.reduceBEq, Try.f4, fnok_13, ty_24, fnok_14, fnok_17, fnok_18, bo_4, fnok_19, zc_31, ty_31, fnok_20, bo_31, eq_31, fnok_15, fnok_21, fnok_22, fnok_16, fnok_23, fnok_24, zc_24, fnok_25, fnok_26, fnok_27, fnok_28, fnok_29, fnok_30])
    | ((with_reducible refine hK _ ?_); clear hK K))
  all_goals skip

theorem ned_lt {s st : Int} {n : Nat} {lo hi : Nat → Int} {need : Int} (k : Nat) : (WS s st n lo hi need).length ≤ 400 := (ws_ok s st n lo hi need).2
theorem ned_next (s st : Int) (n : Nat) (lo hi : Nat → Int) (need more f long : Int) (h : need ≤ more) (h1 : WE s st n lo hi need = 0) (h2 : WE s st n lo hi more = 0) : NE s st n lo hi more f long ≠ 0 ∨ (NE s st n lo hi need f long = 0 ∧ NV s st n lo hi need f long ≤ NV s st n lo hi more f long) := by
  by_cases e : NE s st n lo hi more f long = 0
  · right
    obtain ⟨hv, n1⟩ := we_nd h1
    obtain ⟨_, n2⟩ := we_nd h2
    obtain ⟨_, hf, hl, _⟩ := next_some e
    obtain ⟨y1, y2, y3, y4⟩ := next_yes hv n2 e
    exact next_no hv n1 hf hl y3 y1 (by omega)
  · exact Or.inl e
theorem ned_fin (s st : Int) (n : Nat) (lo hi : Nat → Int) (need more f long : Int) (h : need ≤ more) (h1 : WE s st n lo hi need = 0) (h2 : WE s st n lo hi more = 0) : (NE s st n lo hi more f long != 0 || NE s st n lo hi need f long == 0 && decide (NV s st n lo hi need f long ≤ NV s st n lo hi more f long)) = true := by
  rcases ned_next s st n lo hi need more f long h h1 h2 with a | ⟨a, b⟩
  · simp [a]
  · simp [a, b]
theorem ned_in {s st : Int} {n : Nat} {lo hi : Nat → Int} {need more : Int} (h : need ≤ more) (h1 : WE s st n lo hi need = 0) (h2 : WE s st n lo hi more = 0) {k q : Nat} (hk : (k : Int) < (WS s st n lo hi more).length) (hq : q ≤ (WS s st n lo hi need).length) (hq2 : ((WS s st n lo hi need).length : Int) ≤ q) : inV (WS s st n lo hi need) (L1 (WS s st n lo hi more) k) (L2 (WS s st n lo hi more) k) q = true := by
  obtain rfl : q = (WS s st n lo hi need).length := by omega
  exact inV_t (we_nd h1).1 (we_nd h1).2 (we_nd h2).2 h (by omega)

set_option maxRecDepth 100000 in
set_option maxHeartbeats 4000000 in
theorem law3 (s st : Int) (n : Nat) (lo hi : Nat → Int) (need more f long : Int) : CallsP Try.prog 3 [tideP s st n lo hi, .one (.g (.int .i64 (need))), .one (.g (.int .i64 (more))), .one (.g (.int .i64 (f))), .one (.g (.int .i64 (long)))] (.t (.one (.g (.bool true)))) := by
  have l1 := ned_lt (s := s) (st := st) (n := n) (lo := lo) (hi := hi) (need := need) 0
  have l2 := ned_lt (s := s) (st := st) (n := n) (lo := lo) (hi := hi) (need := more) 0
  refine CallsP_of Try.func3 rfl (by rw [Try.ntmps3]; simp) ?_
  simp only [Try.ntmps3, List.map_cons, List.map_nil, PT.tv, argEnv, Nat.zero_add, Nat.reduceAdd]
  repeat' (first
    | (with_reducible refine AW_seq_k fun K hK => ?_)
    | ((first | (with_reducible refine And.intro ?_ ?_) | (with_reducible refine Need.mk ?_)); focus (first | exact True.intro | (with_reducible assumption) | omega | (refine ⟨?_, ?_⟩ <;> omega) | (intro _; first | exact True.intro | (with_reducible assumption) | omega) | (intros; (repeat' (first | exact True.intro | omega | (with_reducible assumption) | (with_reducible refine And.intro ?_ ?_))); done) | (simp (disch := omega) only [Bool.and_eq_true, Bool.or_eq_true, decide_eq_true_eq, bne_iff_ne, ne_eq] at *; first | done | omega | (intros; omega)) | (simp; done) | (simp; omega) | (simp +contextual; done) | (intro h; rw [h]; rfl) | (intros; simp_all; done)))
    | (with_reducible refine AW_skip ?_)
    | (with_reducible refine AW_exit ?_)
    | (with_reducible refine AW_ret ?_)
    | (with_reducible refine retK_n ?_)
    | (with_reducible refine retK_n' ?_)
    | (with_reducible refine retH_n rfl rfl rfl ?_)
    | (with_reducible refine retH_n' rfl rfl rfl ?_)
    | (with_reducible refine AW_condI ?_)
    | (with_reducible refine AW_block ?_)
    | ((with_reducible refine condN_t ?_ ?_) <;> (intro hc; (try simp only [Bool.and_eq_true, Bool.or_eq_true, Bool.not_eq_true', Bool.and_eq_false_iff, Bool.or_eq_false_iff, decide_eq_true_eq, decide_eq_false_iff_not, bne_iff_ne, beq_iff_eq, reduceCtorEq, bne_eq_false_iff_eq, beq_eq_false_iff_ne, Bool.not_eq_false', Int.not_le, Int.not_lt, Bool.not_not] at hc); (try (rcases hc with ⟨hc1, hc2⟩)); (try (exfalso; first | contradiction | omega))))
    | (with_reducible refine AW_regionP 0 [0, 1, 2, 3, 4] ?_)
    | (with_reducible refine AW_regionP 1 [1, 2, 3, 4, 5] ?_)
    | (with_reducible refine AW_regionP 2 [1, 2, 3, 4, 5, 11] ?_)
    | (with_reducible refine AW_regionP 3 [11] ?_)
    | (with_reducible refine AW_regionP 4 [1, 2, 3, 4, 5, 11] ?_)
    | (with_reducible refine AW_regionP 5 [1, 2, 3, 4, 5, 11, 12, 13] ?_)
    | (with_reducible refine AW_regionP 6 [1, 2, 3, 4, 5, 11, 12, 13, 14, 15] ?_)
    | (with_reducible refine AW_regionP 7 [11] ?_)
    | (with_reducible refine AW_regionP 8 [1, 2, 3, 4, 5, 11, 12, 14] ?_)
    | (with_reducible refine AW_regionP 9 [1, 2, 3, 4, 5, 11, 12, 54, 55, 56] ?_)
    | (with_reducible refine AW_regionP 10 [1, 2, 3, 4, 5, 11, 12, 54, 55, 56] ?_)
    | (with_reducible refine AW_regionP 11 [1, 2, 3, 4, 5, 11, 12, 17, 54, 55, 56] ?_)
    | (with_reducible refine AW_regionP 12 [1, 2, 3, 4, 5, 11, 12, 17, 18, 54, 55, 56] ?_)
    | (with_reducible refine AW_regionP 13 [1, 2, 3, 4, 5, 11, 12, 17, 18, 54, 55, 56, 60, 61, 62] ?_)
    | (with_reducible refine AW_regionP 14 [1, 2, 3, 4, 5, 11, 12, 17, 18, 54, 55, 56, 60, 61, 62] ?_)
    | (with_reducible refine AW_regionP 15 [1, 2, 3, 4, 5, 11, 12, 17, 18, 20, 54, 55, 56, 60, 61, 62] ?_)
    | (with_reducible refine AW_regionP 16 [1, 2, 3, 4, 5, 11, 12, 17, 18, 54, 55, 56, 60, 61, 62] ?_)
    | (with_reducible refine AW_regionP 17 [1, 2, 3, 4, 5, 11, 12, 18, 54, 55, 56] ?_)
    | (with_reducible refine AW_regionP 18 [1, 2, 3, 4, 5, 11, 12, 54, 55, 56] ?_)
    | (with_reducible refine AW_regionP 19 [1, 2, 3, 4, 5, 11] ?_)
    | (with_reducible refine AW_regionP 20 [2, 3, 4, 5, 11, 21, 22] ?_)
    | (with_reducible refine AW_regionP 21 [11, 21, 22, 23, 24] ?_)
    | (refine callN_q (k := 13) fnok_13 (head6_p) ?_ ?_)
    | (refine callN_q (k := 14) fnok_14 (few_p _ _ _ _ _) ?_ ?_)
    | (refine callN_q (k := 15) fnok_15 (windows_p _ _ _ _ _ _) ?_ ?_)
    | (refine callN_q (k := 16) fnok_16 (tnext_p _ _ _ _ _ _ _ _) ?_ ?_)
    | ((with_reducible refine AW_loopQ (c := (Code.seq (Code.region 9 _ _) _)) (ι := Nat) [1, 2, 3, 4, 5, 12, 54, 55] (fun k => [(11, bA true), (56, iA .i64 (k : Int))]) (fun k => []) (fun k => k ≤ (WS s st n lo hi more).length) (fun k => (WS s st n lo hi more).length - k) 0 ?lg9 ?l19 ?l29 ?li9 ?lr9); (case' lg9 => rintro k _); (case' li9 => try (first | trivial | omega | (simp; done) | (simp; omega))); (case' lr9 => rintro k h1 KR hR9; skip; simp only [keepE, hupd, hset, lk, if_true, if_false, Nat.reduceEqDiff, reduceIte, List.cons_append, List.nil_append, spanF0, spanF1]))
    | ((with_reducible refine hR9 _ (k + 1) ?_); (try clear hR9 KR))
    | ((with_reducible refine AW_loopQ (c := (Code.seq (Code.region 13 _ _) _)) (ι := Nat) [1, 2, 3, 4, 5, 11, 12, 17, 54, 55, 56, 60, 61] (fun q => [(18, bA (inV (WS s st n lo hi need) (L1 (WS s st n lo hi more) k) (L2 (WS s st n lo hi more) k) q)), (62, iA .i64 (q : Int))]) (fun q => []) (fun q => q ≤ (WS s st n lo hi need).length) (fun q => (WS s st n lo hi need).length - q) 0 ?lg13 ?l113 ?l213 ?li13 ?lr13); (case' lg13 => rintro q _); (case' li13 => try (first | trivial | omega | (simp; done) | (simp; omega))); (case' lr13 => rintro q g1 KR hR13; skip; simp only [keepE, hupd, hset, lk, if_true, if_false, Nat.reduceEqDiff, reduceIte, List.cons_append, List.nil_append, spanF0, spanF1]))
    | ((with_reducible refine hR13 _ (q + 1) ?_); (try clear hR13 KR))
    | ((with_reducible refine Told.mk ?_); simp only [go_sem, reduceIte, reduceCtorEq, Nat.reduceAdd, Nat.reduceLT, Nat.reduceLeDiff, Nat.reduceEqDiff, Nat.reduceMul, Nat.reduceSub, Nat.reduceBEq, spanF0, spanF1] <;> (first | exact True.intro | ((try simp (disch := omega) only [seaWrap, inV_s, Int.natCast_add, Int.cast_ofNat_Int, and_true, true_and, and_self]); (repeat' (first | exact True.intro | omega | rfl | (with_reducible assumption) | (with_reducible refine And.intro ?_ ?_) | (exact ned_in (by assumption) (by assumption) (by assumption) (by assumption) (by assumption) (by assumption)) | (simp (disch := omega) only [seaWrap, inV_s, Int.natCast_add, Int.cast_ofNat_Int, and_self, true_or]))); done) | (rw [inV_0]; repeat' (first | exact True.intro | rfl | (with_reducible assumption) | (with_reducible refine And.intro ?_ ?_) | simp); done) | (refine Stuck.out ?_)))
    | ((fail_if_success (with_reducible show AW _ _ _ _)); simp (maxSteps := 2000000) only [go_sem, reduceIte, reduceCtorEq, Nat.reduceAdd, Nat.reduceLT, Nat.reduceLeDiff, Nat.reduceEqDiff, Nat.reduceMul, Nat.reduceSub, Nat.reduceBEq, Try.f3, fnok_13, ty_24, fnok_14, fnok_15, le_22, sl_22, ar_22, ty_31, zc_31, of_31_0, ty_3, of_31_1, fnok_16, spanF0, spanF1])
    | ((fail_if_success (with_reducible show AW _ _ _ _)); simp (disch := omega) only [seaWrap, seaDiv, seaMod])
    | ((with_reducible refine hK _ ?_); clear hK K)
    | (with_reducible apply_assumption -exfalso))
  all_goals exact ned_fin s st n lo hi need more f long (by assumption) (by assumption) (by assumption)

theorem law4r (s st : Int) (n : Nat) (lo hi : Nat → Int) (s' st' : Int) (n' : Nat) (lo' hi' : Nat → Int) (b0 b1 need f u : Int) : CallsP Try.prog 4 [tideP s st n lo hi, tideP s' st' n' lo' hi', .agg [.g (.int .i64 (b0)), .g (.int .i64 (b1))], .one (.g (.int .i64 (need))), .one (.g (.int .i64 (f))), .one (.g (.int .i64 (u)))] (.t (.one (.g (.bool true)))) := law4 s st s' st' n n' lo hi lo' hi' b0 b1 need f u

end Go.Proofs.Ythfnmooeijneoaa
