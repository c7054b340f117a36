/- U: walks on abstract states. -/
import Derived.Test.YtifoncmlelinjaaT
set_option linter.unusedVariables false
set_option linter.unusedSimpArgs false
namespace Go.Proofs.Ytifoncmlelinjaa
open Go.RowKit Go.Sea
attribute [local go_sem] callK_N gf gk gdrop lkL setL lsF ltAll rdyL bodyF roundQ roundS loopQ loopS jumpOf inLs yV yA bAV zipPut purgeG_nil purgeG_cons List.tail_cons Option.isNone_none Option.isNone_some callGK_f callDK_f callDGK_f retN retHN blockA arun_nil arun_plain arun_guard plainF guardF guardB arunD_nil arunD_plain arunD_guard plainDF guardDF guardDB AS.ent Eff.noApp Eff.tgt ftF AV.refs TV.refs CV.refs LV.refs Op.operands Call.operands List.append_toArray List.push_toArray List.flatMap_cons List.flatMap_nil List.toList_toArray Option.toArray nidF nidA List.reverse_cons List.reverse_nil opF AS.ev constA lk AS.get AV.tv AV.nd AS.eff AS.put argEnv PT.tv PV.av AV.mbOf hset hget TV.cells dstOk thenA gB isB toB TV.bool? TV.int? intF loadF storeF fieldF indexF lenF sliceF optI appF minmaxF fillF partsF lvsF TV.lv LV.tv purgeE purgeC purgeH AV.purge CV.purge AV.has TV.has CV.has LV.has calleeF argsF tvsF toPT toIV toIVs toPTs toPV iA bA List.map_cons List.map_nil List.length_nil List.length_cons List.getElem?_cons_zero List.getElem?_cons_succ List.getElem?_nil Option.getD_some Option.getD_none Option.bind_some Option.bind_none List.take_succ_cons List.take_zero List.drop_succ_cons List.drop_zero List.take_nil List.drop_nil List.cons_append List.nil_append List.append_nil List.getD_cons_zero List.getD_cons_succ Option.map_some Option.map_none Option.isSome_some Option.isSome_none List.size_toArray List.any_cons List.any_nil List.mem_cons if_true if_false ite_true ite_false cond_true cond_false Nat.zero_add Nat.add_zero Nat.sub_zero Nat.le_refl Nat.zero_mul Nat.mul_zero Nat.one_mul Nat.mul_one Int.toNat_zero Int.toNat_natCast Bool.or_false Bool.false_or Bool.or_true Bool.true_or Bool.and_true Bool.true_and Bool.and_false Bool.false_and beq_self_eq_true beq_true beq_false Bool.not_true Bool.not_false and_true true_and and_false false_and and_self imp_self Bool.cond_false_right Bool.cond_true_left implies_true forall_const true_implies false_implies Option.some.injEq Prod.mk.injEq ne_eq not_false_eq_true not_true_eq_false eq_self Nat.lt_irrefl Nat.not_lt_zero op2F ncF slice3F offF slArrF copyF clearF toArrF callDK_t calleeT eqN barOp boF seaMin seaMax seaNat1 seaNat2 Value.bool.injEq Value.int.injEq srcF TV.dp IV.eqv PT.eqv PV.eqv All2 keepE hupd callZ_N AS.frz AS.frzW frzs frzsOk frzOk frzE frzA frzT frzC frzG frzH hdel cmpS eqF eqC gvs eqVs eqV decide_true resF tupA inlQ okL okGL okG nextL nextF barOpN AS.mv mvE mvG_nil mvG_cons mvH mvO AV.mv TV.mv CV.mv LV.mv famL_mv famL_purge famL_snoc famL_zero wkH wkC wkV nilA nilC AV.ok TV.ok CV.ok LV.ok okB forall_eq_or_imp forall_eq List.not_mem_nil List.mem_singleton true_or or_true or_false false_or or_self exists_prop AV.t.injEq TV.one.injEq CV.iv.injEq IV.g.injEq TV.agg.injEq List.cons.injEq repC_0 repC_1 repC_2 repC_3 rowV_len rowV_pur rowV_has rowV_frz frzC isIv_iv civ_iv rowV_all List.map_append retON AV.to TV.to CV.to
theorem bo_4 : boD Try.prog 4 = true := by kernel_rfl
theorem fnok_11 : fnOk Try.prog 11 = true := by kernel_rfl
theorem fnok_12 : fnOk Try.prog 12 = true := by kernel_rfl
theorem fnok_16 : fnOk Try.prog 16 = true := by kernel_rfl
theorem fnok_17 : fnOk Try.prog 17 = true := by kernel_rfl
theorem fnok_19 : fnOk Try.prog 19 = true := by kernel_rfl
theorem fnok_23 : fnOk Try.prog 23 = true := by kernel_rfl
theorem fnok_25 : fnOk Try.prog 25 = true := by kernel_rfl
theorem fnok_28 : fnOk Try.prog 28 = true := by kernel_rfl
theorem fnok_30 : fnOk Try.prog 30 = true := by kernel_rfl

theorem recs_refl (n : Nat) (m : Nat → Nat) (D : Nat → Nat → Int) : recsB n m D n m D = true := decide_eq_true ⟨rfl, fun _ _ => ⟨rfl, fun _ _ => rfl⟩⟩
theorem same_self (n : Nat) (D : Nat → Nat → Int) (hn : n ≤ 9223372036854775807) : CallsP Try.prog 17 [.agg [.lst 1 n (rowsI c64 D)], .agg [.lst 1 n (rowsI c64 D)]] (.t (.one (.g (.bool true)))) := by
  have h := same_p n c64 D n c64 D hn hn (c64_le n) (c64_le n)
  rw [recs_refl] at h
  exact h
theorem recs_self (n : Nat) (m : Nat → Nat) (D : Nat → Nat → Int) (hn : n ≤ 9223372036854775807) (hm : ∀ i, i < n → m i ≤ 9223372036854775807) : CallsP Try.prog 26 [.one (.lst 1 n (rowsI m D)), .one (.lst 1 n (rowsI m D))] (.t (.one (.g (.bool true)))) := by
  have h := recs_p n m D n m D hn hn hm hm
  rw [recs_refl] at h
  exact h
theorem newN_le (x : Int) : newN x ≤ 63 := by
  unfold newN newB
  split
  · rename_i h
    have := of_decide_eq_true h
    omega
  · omega
theorem cutN_le {n : Nat} {m : Nat → Nat} {D : Nat → Nat → Int} {r : Nat} {af : Int} : cutN n m D r af ≤ n := by unfold cutN; split <;> omega
theorem cmpN_le {n : Nat} {m : Nat → Nat} {D : Nat → Nat → Int} {n' : Nat} {m' : Nat → Nat} {af : Int} : cmpN n m D n' m' af ≤ n := by unfold cmpN; split <;> omega
theorem readN_le {n : Nat} {m : Nat → Nat} {D : Nat → Nat → Int} : readN n m D ≤ hlf n * 64 := by
  unfold readN
  split
  · have h1 := endP_le (hv n D) (hlf n * 64)
    have h2 := posS_ge (hv n D) (cnt (hv n D) (hlf n * 64))
    unfold endP at h1
    omega
  · omega

set_option maxRecDepth 100000 in
set_option maxHeartbeats 4000000 in
theorem law3_b (n : Nat) (m : Nat → Nat) (D : Nat → Nat → Int) (hn : n ≤ 9223372036854775807) (hm : ∀ i, i < n → m i ≤ 9223372036854775807) (hD : BytD D) (r : Nat) (R : Nat → Int) (hr : r ≤ 9223372036854775807) (n' : Nat) (m' : Nat → Nat) (D' : Nat → Nat → Int) (hn' : n' ≤ 9223372036854775807) (hm' : ∀ i, i < n' → m' i ≤ 9223372036854775807) (af x : Int) (haf : -9223372036854775808 ≤ af ∧ af ≤ 9223372036854775807) (hx : -9223372036854775808 ≤ x ∧ x ≤ 9223372036854775807) (hb : fewB n m n' m' = false ∨ (600 < r ∧ r ≤ 65535)) : CallsP Try.prog 3 [.agg [.lst 1 (n) (rowsI (m) (D))], .one (.lst 1 (r) (bytI (R))), .one (.lst 1 (n') (rowsI (m') (D'))), .one (.g (.int .i64 (af))), .one (.g (.int .i64 (x)))] (.t (.one (.g (.bool (true))))) := by
  refine CallsP_of Try.func3 rfl (by rw [Try.ntmps3]; simp) ?_
  simp only [Try.ntmps3, List.map_cons, List.map_nil, PT.tv, argEnv, Nat.zero_add, Nat.reduceAdd]
  repeat' (first
    | (with_reducible refine AW_seq_k fun K hK => ?_)
    | ((first | (with_reducible refine And.intro ?_ ?_) | (with_reducible refine Need.mk ?_)); focus (first | exact True.intro | (with_reducible assumption) | omega | (refine ⟨?_, ?_⟩ <;> omega) | (intro _; first | exact True.intro | (with_reducible assumption) | omega) | (intros; (repeat' (first | exact True.intro | omega | (with_reducible assumption) | (with_reducible refine And.intro ?_ ?_))); done) | (simp (disch := omega) only [Bool.and_eq_true, Bool.or_eq_true, decide_eq_true_eq, bne_iff_ne, ne_eq] at *; first | done | omega | (intros; omega)) | (simp; done) | (simp; omega) | (simp +contextual; done) | (intro h; rw [h]; rfl) | (intros; simp_all; done)))
    | (with_reducible refine AW_skip ?_)
    | (with_reducible refine AW_exit ?_)
    | (with_reducible refine AW_ret ?_)
    | (with_reducible refine retK_n ?_)
    | (with_reducible refine retK_n' ?_)
    | (with_reducible refine retH_n rfl rfl rfl ?_)
    | (with_reducible refine retH_n' rfl rfl rfl ?_)
    | (with_reducible refine retO_n ?_ ?_)
    | (with_reducible refine retO_n' ?_ ?_)
    | (with_reducible refine AW_condI ?_)
    | (with_reducible refine AW_block ?_)
    | ((with_reducible refine condN_t ?_ ?_) <;> (intro hc; (try simp only [Bool.and_eq_true, Bool.or_eq_true, Bool.not_eq_true', Bool.and_eq_false_iff, Bool.or_eq_false_iff, decide_eq_true_eq, decide_eq_false_iff_not, bne_iff_ne, beq_iff_eq, reduceCtorEq, bne_eq_false_iff_eq, beq_eq_false_iff_ne, Bool.not_eq_false', Int.not_le, Int.not_lt, Bool.not_not] at hc); ((try (exfalso; rcases hb with hb | hb; (have h9 := hc.1; rw [hb] at h9; cases h9); omega))); (try (exfalso; first | contradiction | omega))))
    | (with_reducible refine AW_regionP 0 [0, 1, 2, 3, 4] ?_)
    | (with_reducible refine AW_regionP 1 [1, 2, 3, 4, 5] ?_)
    | (with_reducible refine AW_regionP 2 [1, 2, 3, 4, 5, 11] ?_)
    | (with_reducible refine AW_regionP 3 [11] ?_)
    | ((with_reducible refine AW_prune (c := Code.region 4 _ true) [1, 2, 3, 4, 5, 11] ?_); (with_reducible refine AW_regionD ?_ ?_ ?_ ?_); (focus kernel_rfl); (focus kernel_rfl); (focus kernel_rfl))
    | (with_reducible refine AW_regionP 5 [1, 2, 3, 4, 5, 11] ?_)
    | (with_reducible refine AW_regionP 6 [1, 2, 3, 4, 5, 11, 12, 13] ?_)
    | (with_reducible refine AW_regionP 7 [1, 2, 3, 5, 11, 12, 13, 14, 15] ?_)
    | (with_reducible refine AW_regionP 8 [1, 2, 3, 5, 11, 12, 14] ?_)
    | (with_reducible refine AW_regionP 9 [1, 2, 3, 5, 11, 12, 13, 14] ?_)
    | (with_reducible refine AW_regionP 10 [1, 2, 3, 5, 11, 12, 13, 14, 15] ?_)
    | (with_reducible refine AW_regionP 11 [1, 2, 3, 5, 11, 12, 14] ?_)
    | (with_reducible refine AW_regionP 12 [1, 2, 3, 5, 11, 12, 13, 14] ?_)
    | (with_reducible refine AW_regionP 13 [1, 2, 3, 5, 11, 12, 13, 14, 15] ?_)
    | (with_reducible refine AW_regionP 14 [1, 2, 3, 5, 11, 12, 14] ?_)
    | (with_reducible refine AW_regionP 15 [1, 2, 3, 5, 11, 12, 13, 14, 16] ?_)
    | (with_reducible refine AW_regionP 16 [2, 3, 5, 11, 12, 13, 14, 15, 16, 17] ?_)
    | (with_reducible refine AW_regionP 17 [2, 3, 5, 11, 12, 14] ?_)
    | (with_reducible refine AW_regionP 18 [2, 3, 5, 11, 12, 13, 14, 18] ?_)
    | (with_reducible refine AW_regionP 19 [2, 3, 5, 11, 12, 13, 14, 15, 18, 19] ?_)
    | (with_reducible refine AW_regionP 20 [2, 3, 5, 11, 12, 14] ?_)
    | (with_reducible refine AW_regionP 21 [2, 3, 5, 11, 12, 13, 14, 16] ?_)
    | (with_reducible refine AW_regionP 22 [2, 3, 5, 11, 12, 13, 14, 15, 16, 17] ?_)
    | (with_reducible refine AW_regionP 23 [2, 3, 5, 11, 12, 14] ?_)
    | (with_reducible refine AW_regionP 24 [2, 3, 5, 11, 12, 13, 14] ?_)
    | (with_reducible refine AW_regionP 25 [2, 3, 5, 11, 12, 13, 14, 15] ?_)
    | (with_reducible refine AW_regionP 26 [2, 3, 5, 11, 12, 14] ?_)
    | (with_reducible refine AW_regionP 27 [2, 3, 5, 11, 12, 13, 14] ?_)
    | (with_reducible refine AW_regionP 28 [11, 12, 13, 14, 15] ?_)
    | ((with_reducible refine And.intro ?_ ?_); focus ((with_reducible show chkR _ _ _ = true); kernel_rfl))
    | (refine callN_q (k := 11) fnok_11 (head_p) ?_ ?_)
    | (refine callN_q (k := 12) fnok_12 (few_p n m D n' m' D' hn hn' hm hm') ?_ ?_)
    | ((fail_if_success (with_reducible show AW _ _ _ _)); simp (maxSteps := 2000000) only [go_sem, reduceIte, reduceCtorEq, Nat.reduceAdd, Nat.reduceLT, Nat.reduceLeDiff, Nat.reduceEqDiff, Nat.reduceMul, Nat.reduceSub, Nat.reduceBEq, Try.f3, fnok_11, ty_24, fnok_12, le_25, fnok_13, fnok_14, bo_4, fnok_15, zc_24, fnok_16, fnok_17, fnok_18, fnok_19, fnok_20, fnok_21, fnok_22, fnok_23, fnok_24, fnok_25, fnok_26, fnok_27, fnok_28, fnok_29, fnok_30, fnok_31, fnok_32, bytI, rowsI])
    | ((with_reducible refine hK _ ?_); clear hK K))

set_option maxRecDepth 100000 in
set_option maxHeartbeats 4000000 in
theorem law3_ok (n : Nat) (m : Nat → Nat) (D : Nat → Nat → Int) (hn : n ≤ 9223372036854775807) (hm : ∀ i, i < n → m i ≤ 9223372036854775807) (hD : BytD D) (r : Nat) (R : Nat → Int) (hr : r ≤ 9223372036854775807) (n' : Nat) (m' : Nat → Nat) (D' : Nat → Nat → Int) (hn' : n' ≤ 9223372036854775807) (hm' : ∀ i, i < n' → m' i ≤ 9223372036854775807) (af x : Int) (haf : -9223372036854775808 ≤ af ∧ af ≤ 9223372036854775807) (hx : -9223372036854775808 ≤ x ∧ x ≤ 9223372036854775807) (hfew : fewB n m n' m' = true) (h6 : ¬ (600 < r ∧ r ≤ 65535)) : CallsP Try.prog 3 [.agg [.lst 1 (n) (rowsI (m) (D))], .one (.lst 1 (r) (bytI (R))), .one (.lst 1 (n') (rowsI (m') (D'))), .one (.g (.int .i64 (af))), .one (.g (.int .i64 (x)))] (.t (.one (.g (.bool (true))))) := by
  have hF := of_decide_eq_true hfew
  have hq : n' ≤ 100 := by omega
  have hh : hlf n ≤ 8 := by unfold hlf; omega
  have hrd : readN n m D ≤ 9223372036854775807 := by have := readN_le (n := n) (m := m) (D := D); omega
  have hrl := rl_bd (n := n) hD
  refine CallsP_of Try.func3 rfl (by rw [Try.ntmps3]; simp) ?_
  simp only [Try.ntmps3, List.map_cons, List.map_nil, PT.tv, argEnv, Nat.zero_add, Nat.reduceAdd]
  repeat' (first
    | (with_reducible refine AW_seq_k fun K hK => ?_)
    | ((first | (with_reducible refine And.intro ?_ ?_) | (with_reducible refine Need.mk ?_)); focus (first | exact True.intro | (with_reducible assumption) | omega | (refine ⟨?_, ?_⟩ <;> omega) | (intro _; first | exact True.intro | (with_reducible assumption) | omega) | (intros; (repeat' (first | exact True.intro | omega | (with_reducible assumption) | (with_reducible refine And.intro ?_ ?_))); done) | (simp (disch := omega) only [Bool.and_eq_true, Bool.or_eq_true, decide_eq_true_eq, bne_iff_ne, ne_eq] at *; first | done | omega | (intros; omega)) | (simp; done) | (simp; omega) | (simp +contextual; done) | (intro h; rw [h]; rfl) | (intros; simp_all; done)))
    | (with_reducible refine AW_skip ?_)
    | (with_reducible refine AW_exit ?_)
    | (with_reducible refine AW_ret ?_)
    | (with_reducible refine retK_n ?_)
    | (with_reducible refine retK_n' ?_)
    | (with_reducible refine retH_n rfl rfl rfl ?_)
    | (with_reducible refine retH_n' rfl rfl rfl ?_)
    | (with_reducible refine retO_n ?_ ?_)
    | (with_reducible refine retO_n' ?_ ?_)
    | (with_reducible refine AW_condI ?_)
    | (with_reducible refine AW_block ?_)
    | ((with_reducible refine condN_t ?_ ?_) <;> (intro hc; (try simp only [Bool.and_eq_true, Bool.or_eq_true, Bool.not_eq_true', Bool.and_eq_false_iff, Bool.or_eq_false_iff, decide_eq_true_eq, decide_eq_false_iff_not, bne_iff_ne, beq_iff_eq, reduceCtorEq, bne_eq_false_iff_eq, beq_eq_false_iff_ne, Bool.not_eq_false', Int.not_le, Int.not_lt, Bool.not_not] at hc); ((try (exfalso; omega))); (try (exfalso; first | contradiction | omega))))
    | (with_reducible refine AW_regionP 0 [0, 1, 2, 3, 4] ?_)
    | (with_reducible refine AW_regionP 1 [1, 2, 3, 4, 5] ?_)
    | (with_reducible refine AW_regionP 2 [1, 2, 3, 4, 5, 11] ?_)
    | (with_reducible refine AW_regionP 3 [11] ?_)
    | ((with_reducible refine AW_prune (c := Code.region 4 _ true) [1, 2, 3, 4, 5, 11] ?_); (with_reducible refine AW_regionD ?_ ?_ ?_ ?_); (focus kernel_rfl); (focus kernel_rfl); (focus kernel_rfl))
    | (with_reducible refine AW_regionP 5 [1, 2, 3, 4, 5, 11] ?_)
    | (with_reducible refine AW_regionP 6 [1, 2, 3, 4, 5, 11, 12, 13] ?_)
    | (with_reducible refine AW_regionP 7 [1, 2, 3, 5, 11, 12, 13, 14, 15] ?_)
    | (with_reducible refine AW_regionP 8 [1, 2, 3, 5, 11, 12, 14] ?_)
    | (with_reducible refine AW_regionP 9 [1, 2, 3, 5, 11, 12, 13, 14] ?_)
    | (with_reducible refine AW_regionP 10 [1, 2, 3, 5, 11, 12, 13, 14, 15] ?_)
    | (with_reducible refine AW_regionP 11 [1, 2, 3, 5, 11, 12, 14] ?_)
    | (with_reducible refine AW_regionP 12 [1, 2, 3, 5, 11, 12, 13, 14] ?_)
    | (with_reducible refine AW_regionP 13 [1, 2, 3, 5, 11, 12, 13, 14, 15] ?_)
    | (with_reducible refine AW_regionP 14 [1, 2, 3, 5, 11, 12, 14] ?_)
    | (with_reducible refine AW_regionP 15 [1, 2, 3, 5, 11, 12, 13, 14, 16] ?_)
    | (with_reducible refine AW_regionP 16 [2, 3, 5, 11, 12, 13, 14, 15, 16, 17] ?_)
    | (with_reducible refine AW_regionP 17 [2, 3, 5, 11, 12, 14] ?_)
    | (with_reducible refine AW_regionP 18 [2, 3, 5, 11, 12, 13, 14, 18] ?_)
    | (with_reducible refine AW_regionP 19 [2, 3, 5, 11, 12, 13, 14, 15, 18, 19] ?_)
    | (with_reducible refine AW_regionP 20 [2, 3, 5, 11, 12, 14] ?_)
    | (with_reducible refine AW_regionP 21 [2, 3, 5, 11, 12, 13, 14, 16] ?_)
    | (with_reducible refine AW_regionP 22 [2, 3, 5, 11, 12, 13, 14, 15, 16, 17] ?_)
    | (with_reducible refine AW_regionP 23 [2, 3, 5, 11, 12, 14] ?_)
    | (with_reducible refine AW_regionP 24 [2, 3, 5, 11, 12, 13, 14] ?_)
    | (with_reducible refine AW_regionP 25 [2, 3, 5, 11, 12, 13, 14, 15] ?_)
    | (with_reducible refine AW_regionP 26 [2, 3, 5, 11, 12, 14] ?_)
    | (with_reducible refine AW_regionP 27 [2, 3, 5, 11, 12, 13, 14] ?_)
    | (with_reducible refine AW_regionP 28 [11, 12, 13, 14, 15] ?_)
    | ((with_reducible refine And.intro ?_ ?_); focus ((with_reducible show chkR _ _ _ = true); kernel_rfl))
    | (refine callN_q (k := 11) fnok_11 (head_p) ?_ ?_)
    | (refine callN_q (k := 12) fnok_12 (few_p n m D n' m' D' hn hn' hm hm') ?_ ?_)
    | (refine callDGN_q (k := 13) fnok_13 (fun hg => valid_p n m D hn hm hD) ?_ ?_)
    | (refine callDGN_q (k := 14) fnok_14 (fun hg => rvalid_p n m D hn hm hD) ?_ ?_)
    | (refine callN_q (k := 15) fnok_15 (new_p x hx) ?_ ?_)
    | (refine callN_q (k := 16) fnok_16 (rnew_p x hx) ?_ ?_)
    | (refine callGN_q (k := 17) fnok_17 (fun hg => same_self (newN x) zD (by have := newN_le x; omega)) ?_ ?_)
    | (refine callGN_q (k := 17) fnok_17 (fun hg => same_self (cutN n m D r 1048576) (apH n D r R 1048576) (by have := cutN_le (n := n) (m := m) (D := D) (r := r) (af := 1048576); omega)) ?_ ?_)
    | (refine callGN_q (k := 17) fnok_17 (fun hg => same_self (cutN n m D r af) (apH n D r R af.toNat) (by have := cutN_le (n := n) (m := m) (D := D) (r := r) (af := af); omega)) ?_ ?_)
    | (refine callGN_q (k := 17) fnok_17 (fun hg => same_self (cmpN n m D n' m' 1048576) (cmpD n D n' m' D' 1048576) (by have := cmpN_le (n := n) (m := m) (D := D) (n' := n') (m' := m') (af := 1048576); omega)) ?_ ?_)
    | (refine callGN_q (k := 17) fnok_17 (fun hg => same_self (cmpN n m D n' m' af) (cmpD n D n' m' D' af.toNat) (by have := cmpN_le (n := n) (m := m) (D := D) (n' := n') (m' := m') (af := af); omega)) ?_ ?_)
    | (refine callN_q (k := 18) fnok_18 (append_p n m D hn hm hD r R hr) ?_ ?_)
    | (refine callN_q (k := 19) fnok_19 (rappend_p n m D hn hm hD r R hr) ?_ ?_)
    | (refine callN_q (k := 20) fnok_20 (cut_p n m D hn hm hD r R hr af haf) ?_ ?_)
    | (refine callN_q (k := 21) fnok_21 (rcut_p n m D hn hm hD r R hr af haf) ?_ ?_)
    | (refine callN_q (k := 22) fnok_22 (cost_p n m D hn hm hD r R hr) ?_ ?_)
    | (refine callN_q (k := 23) fnok_23 (rcost_p n m D hn hm hD r R hr) ?_ ?_)
    | (refine callN_q (k := 24) fnok_24 (read_p n m D hn hm hD) ?_ ?_)
    | (refine callN_q (k := 25) fnok_25 (rread_p n m D hn hm hD) ?_ ?_)
    | (refine callGN_q (k := 26) fnok_26 (fun hg => recs_self (readN n m D) (recL (hv n D)) (recF (hv n D)) hrd (fun i _ => by have := hrl i; omega)) ?_ ?_)
    | (refine callN_q (k := 27) fnok_27 (room_p n m D hn hm hD) ?_ ?_)
    | (refine callN_q (k := 28) fnok_28 (rroom_p n m D hn hm hD) ?_ ?_)
    | (refine callN_q (k := 29) fnok_29 (compact_p n m D hn hm hD n' m' D' hq hm') ?_ ?_)
    | (refine callN_q (k := 30) fnok_30 (rcompact_p n m D hn hm hD n' m' D' hq hm') ?_ ?_)
    | (refine callN_q (k := 31) fnok_31 (cc_p n m D hn hm hD n' m' D' hq hm' af haf) ?_ ?_)
    | (refine callN_q (k := 32) fnok_32 (rcc_p n m D hn hm hD n' m' D' hq hm' af haf) ?_ ?_)
    | ((fail_if_success (with_reducible show AW _ _ _ _)); simp (maxSteps := 2000000) only [go_sem, reduceIte, reduceCtorEq, Nat.reduceAdd, Nat.reduceLT, Nat.reduceLeDiff, Nat.reduceEqDiff, Nat.reduceMul, Nat.reduceSub, Nat.reduceBEq, Try.f3, fnok_11, ty_24, fnok_12, le_25, fnok_13, fnok_14, bo_4, fnok_15, zc_24, fnok_16, fnok_17, fnok_18, fnok_19, fnok_20, fnok_21, fnok_22, fnok_23, fnok_24, fnok_25, fnok_26, fnok_27, fnok_28, fnok_29, fnok_30, fnok_31, fnok_32, bytI, rowsI, hfew])
    | ((with_reducible refine hK _ ?_); clear hK K))

theorem law3 (n : Nat) (m : Nat → Nat) (D : Nat → Nat → Int) (hn : n ≤ 9223372036854775807) (hm : ∀ i, i < n → m i ≤ 9223372036854775807) (hD : BytD D) (r : Nat) (R : Nat → Int) (hr : r ≤ 9223372036854775807) (n' : Nat) (m' : Nat → Nat) (D' : Nat → Nat → Int) (hn' : n' ≤ 9223372036854775807) (hm' : ∀ i, i < n' → m' i ≤ 9223372036854775807) (af x : Int) (haf : -9223372036854775808 ≤ af ∧ af ≤ 9223372036854775807) (hx : -9223372036854775808 ≤ x ∧ x ≤ 9223372036854775807) : CallsP Try.prog 3 [.agg [.lst 1 (n) (rowsI (m) (D))], .one (.lst 1 (r) (bytI (R))), .one (.lst 1 (n') (rowsI (m') (D'))), .one (.g (.int .i64 (af))), .one (.g (.int .i64 (x)))] (.t (.one (.g (.bool true)))) := by
  cases hf : fewB n m n' m' with
  | false => exact law3_b n m D hn hm hD r R hr n' m' D' hn' hm' af x haf hx (Or.inl hf)
  | true =>
    by_cases h6 : 600 < r ∧ r ≤ 65535
    · exact law3_b n m D hn hm hD r R hr n' m' D' hn' hm' af x haf hx (Or.inr h6)
    · exact law3_ok n m D hn hm hD r R hr n' m' D' hn' hm' af x haf hx hf h6

end Go.Proofs.Ytifoncmlelinjaa
