/- Z: walks on abstract states. -/
import Derived.Test.YtifoncmlelinjaaX
set_option linter.unusedVariables false
set_option linter.unusedSimpArgs false
namespace Go.Proofs.Ytifoncmlelinjaa
open Go.RowKit Go.Sea
attribute [local go_sem] callK_N gf gk gdrop lkL setL lsF ltAll rdyL bodyF roundQ roundS loopQ loopS jumpOf inLs yV yA bAV zipPut purgeG_nil purgeG_cons List.tail_cons Option.isNone_none Option.isNone_some callGK_f callDK_f callDGK_f retN retHN blockA arun_nil arun_plain arun_guard plainF guardF guardB arunD_nil arunD_plain arunD_guard plainDF guardDF guardDB AS.ent Eff.noApp Eff.tgt ftF AV.refs TV.refs CV.refs LV.refs Op.operands Call.operands List.append_toArray List.push_toArray List.flatMap_cons List.flatMap_nil List.toList_toArray Option.toArray nidF nidA List.reverse_cons List.reverse_nil opF AS.ev constA lk AS.get AV.tv AV.nd AS.eff AS.put argEnv PT.tv PV.av AV.mbOf hset hget TV.cells dstOk thenA gB isB toB TV.bool? TV.int? intF loadF storeF fieldF indexF lenF sliceF optI appF minmaxF fillF partsF lvsF TV.lv LV.tv purgeE purgeC purgeH AV.purge CV.purge AV.has TV.has CV.has LV.has calleeF argsF tvsF toPT toIV toIVs toPTs toPV iA bA List.map_cons List.map_nil List.length_nil List.length_cons List.getElem?_cons_zero List.getElem?_cons_succ List.getElem?_nil Option.getD_some Option.getD_none Option.bind_some Option.bind_none List.take_succ_cons List.take_zero List.drop_succ_cons List.drop_zero List.take_nil List.drop_nil List.cons_append List.nil_append List.append_nil List.getD_cons_zero List.getD_cons_succ Option.map_some Option.map_none Option.isSome_some Option.isSome_none List.size_toArray List.any_cons List.any_nil List.mem_cons if_true if_false ite_true ite_false cond_true cond_false Nat.zero_add Nat.add_zero Nat.sub_zero Nat.le_refl Nat.zero_mul Nat.mul_zero Nat.one_mul Nat.mul_one Int.toNat_zero Int.toNat_natCast Bool.or_false Bool.false_or Bool.or_true Bool.true_or Bool.and_true Bool.true_and Bool.and_false Bool.false_and beq_self_eq_true beq_true beq_false Bool.not_true Bool.not_false and_true true_and and_false false_and and_self imp_self Bool.cond_false_right Bool.cond_true_left implies_true forall_const true_implies false_implies Option.some.injEq Prod.mk.injEq ne_eq not_false_eq_true not_true_eq_false eq_self Nat.lt_irrefl Nat.not_lt_zero op2F ncF slice3F offF slArrF copyF clearF toArrF callDK_t calleeT eqN barOp boF seaMin seaMax seaNat1 seaNat2 Value.bool.injEq Value.int.injEq srcF TV.dp IV.eqv PT.eqv PV.eqv All2 keepE hupd callZ_N AS.frz AS.frzW frzs frzsOk frzOk frzE frzA frzT frzC frzG frzH hdel cmpS eqF eqC gvs eqVs eqV decide_true resF tupA inlQ okL okGL okG nextL nextF barOpN AS.mv mvE mvG_nil mvG_cons mvH mvO AV.mv TV.mv CV.mv LV.mv famL_mv famL_purge famL_snoc famL_zero wkH wkC wkV nilA nilC AV.ok TV.ok CV.ok LV.ok okB forall_eq_or_imp forall_eq List.not_mem_nil List.mem_singleton true_or or_true or_false false_or or_self exists_prop AV.t.injEq TV.one.injEq CV.iv.injEq IV.g.injEq TV.agg.injEq List.cons.injEq repC_0 repC_1 repC_2 repC_3 rowV_len rowV_pur rowV_has rowV_frz frzC isIv_iv civ_iv rowV_all List.map_append retON AV.to TV.to CV.to



theorem cmp_val {n : Nat} {m : Nat → Nat} {D : Nat → Nat → Int} {n' : Nat} {m' : Nat → Nat} {af : Int} (hv_ : vB n m D = true) (hm : ∀ i, i < n' → m' i ≤ 65535) (h0 : 0 ≤ af) : (encP m' n' ≤ hlf n * 64 → cmpE n m D n' m' af = 0 ∧ cmpN n m D n' m' af = n) ∧ (¬ encP m' n' ≤ hlf n * 64 → cmpE n m D n' m' af = 17) := by
  have hl : anyB n' (longB m') = false := by
    unfold anyB longB
    refine decide_eq_false fun ⟨i, hi, h⟩ => ?_
    have := hm i hi
    have := of_decide_eq_true h
    omega
  unfold cmpN cmpE cmpOk
  rw [hv_, hl, decide_eq_true h0]
  refine ⟨fun h => ?_, fun h => ?_⟩
  · simp [h]
  · simp [h]
theorem few_rs {n : Nat} {m : Nat → Nat} {n' : Nat} {m' : Nat → Nat} (h : fewB n m n' m' = true) : n ≤ 17 ∧ n' ≤ 20 ∧ ∀ i, i < n' → m' i ≤ 600 := by
  have := of_decide_eq_true h
  exact ⟨this.1, this.2.1, this.2.2.2⟩

set_option maxRecDepth 100000 in
set_option maxHeartbeats 4000000 in
theorem law6_b (n : Nat) (m : Nat → Nat) (D : Nat → Nat → Int) (hn : n ≤ 9223372036854775807) (hm : ∀ i, i < n → m i ≤ 9223372036854775807) (hD : BytD D) (n' : Nat) (m' : Nat → Nat) (D' : Nat → Nat → Int) (hn' : n' ≤ 9223372036854775807) (hm' : ∀ i, i < n' → m' i ≤ 9223372036854775807) (hD' : BytD D') (af : Int) (haf : -9223372036854775808 ≤ af ∧ af ≤ 9223372036854775807) (hb : fewB n m n' m' = false ∨ vB n m D = false ∨ af < 0) : CallsP Try.prog 6 [.agg [.lst 1 (n) (rowsI (m) (D))], .one (.lst 1 (n') (rowsI (m') (D'))), .one (.g (.int .i64 (af)))] (.t (.one (.g (.bool (true))))) := by
  refine CallsP_of Try.func6 rfl (by rw [Try.ntmps6]; simp) ?_
  simp only [Try.ntmps6, List.map_cons, List.map_nil, PT.tv, argEnv, Nat.zero_add, Nat.reduceAdd]
  repeat' (first
    | (with_reducible refine AW_seq_k fun K hK => ?_)
    | ((first | (with_reducible refine And.intro ?_ ?_) | (with_reducible refine Need.mk ?_)); focus (first | exact True.intro | (with_reducible assumption) | omega | (refine ⟨?_, ?_⟩ <;> omega) | (intro _; first | exact True.intro | (with_reducible assumption) | omega) | (intros; (repeat' (first | exact True.intro | omega | (with_reducible assumption) | (with_reducible refine And.intro ?_ ?_))); done) | (simp (disch := omega) only [Bool.and_eq_true, Bool.or_eq_true, decide_eq_true_eq, bne_iff_ne, ne_eq] at *; first | done | omega | (intros; omega)) | (simp; done) | (simp; omega) | (simp +contextual; done) | (intro h; rw [h]; rfl) | (intros; simp_all; done)))
    | (with_reducible refine AW_skip ?_)
    | (with_reducible refine AW_exit ?_)
    | (with_reducible refine AW_ret ?_)
    | (with_reducible refine retK_n ?_)
    | (with_reducible refine retK_n' ?_)
    | (with_reducible refine retH_n rfl rfl rfl ?_)
    | (with_reducible refine retH_n' rfl rfl rfl ?_)
    | (with_reducible refine retO_n ?_ ?_)
    | (with_reducible refine retO_n' ?_ ?_)
    | (with_reducible refine AW_condI ?_)
    | (with_reducible refine AW_block ?_)
    | ((with_reducible refine condN_t ?_ ?_) <;> (intro hc; (try simp only [Bool.and_eq_true, Bool.or_eq_true, Bool.not_eq_true', Bool.and_eq_false_iff, Bool.or_eq_false_iff, decide_eq_true_eq, decide_eq_false_iff_not, bne_iff_ne, beq_iff_eq, reduceCtorEq, bne_eq_false_iff_eq, beq_eq_false_iff_ne, Bool.not_eq_false', Int.not_le, Int.not_lt, Bool.not_not] at hc); ((try (exfalso; rcases hb with hb | hb | hb; (have h9 := hc.1.1; rw [hb] at h9; cases h9); (have h9 := hc.1.2; rw [hb] at h9; cases h9); omega))); (try (exfalso; first | contradiction | omega))))
    | (with_reducible refine AW_regionP 0 [0, 1, 2] ?_)
    | (with_reducible refine AW_regionP 1 [1, 2, 3] ?_)
    | (with_reducible refine AW_regionP 2 [1, 2, 3, 7] ?_)
    | (with_reducible refine AW_regionP 3 [7] ?_)
    | (with_reducible refine AW_regionP 4 [1, 2, 3, 7] ?_)
    | (with_reducible refine AW_regionP 5 [1, 2, 3, 7, 8, 9] ?_)
    | (with_reducible refine AW_regionP 6 [1, 2, 3, 7, 8, 9, 10, 11] ?_)
    | (with_reducible refine AW_regionP 7 [7, 9, 11] ?_)
    | (with_reducible refine AW_regionP 8 [1, 2, 3, 7, 8, 10, 11] ?_)
    | (with_reducible refine AW_regionP 9 [1, 2, 7, 8, 10, 11, 12, 13] ?_)
    | (with_reducible refine AW_regionP 10 [1, 2, 7, 10, 11, 12, 13, 14, 15] ?_)
    | (with_reducible refine AW_regionP 11 [1, 2, 7, 10, 11, 12, 13, 14, 15, 16, 17] ?_)
    | (with_reducible refine AW_regionP 12 [1, 2, 7, 10, 12, 16] ?_)
    | (with_reducible refine AW_regionP 13 [1, 7, 10] ?_)
    | (with_reducible refine AW_regionP 14 [1, 7, 18, 19] ?_)
    | (with_reducible refine AW_regionP 15 [1, 7, 19, 20, 21] ?_)
    | (refine callN_q (k := 11) fnok_11 (head_p) ?_ ?_)
    | (refine callN_q (k := 12) fnok_12 (few_p n m D n' m' D' hn hn' hm hm') ?_ ?_)
    | (refine callGN_q (k := 13) fnok_13 (fun hg => valid_p n m D hn hm hD) ?_ ?_)
    | ((fail_if_success (with_reducible show AW _ _ _ _)); simp (maxSteps := 2000000) only [go_sem, reduceIte, reduceCtorEq, Nat.reduceAdd, Nat.reduceLT, Nat.reduceLeDiff, Nat.reduceEqDiff, Nat.reduceMul, Nat.reduceSub, Nat.reduceBEq, Try.f6, fnok_11, ty_24, fnok_12, fnok_13, fnok_29, zc_24, fnok_31, fnok_24, fnok_26, bytI, rowsI])
    | ((with_reducible refine hK _ ?_); clear hK K))

set_option maxRecDepth 100000 in
set_option maxHeartbeats 4000000 in
theorem law6_full (n : Nat) (m : Nat → Nat) (D : Nat → Nat → Int) (hn : n ≤ 9223372036854775807) (hm : ∀ i, i < n → m i ≤ 9223372036854775807) (hD : BytD D) (n' : Nat) (m' : Nat → Nat) (D' : Nat → Nat → Int) (hn' : n' ≤ 9223372036854775807) (hm' : ∀ i, i < n' → m' i ≤ 9223372036854775807) (hD' : BytD D') (af : Int) (haf : -9223372036854775808 ≤ af ∧ af ≤ 9223372036854775807) (hf : fewB n m n' m' = true) (hq : n' ≤ 100) (hv_ : vB n m D = true) (h0 : (af < 0) = False) (h3 : cmpE n m D n' m' 1048576 = 17) (h4 : cmpE n m D n' m' af = 17) : CallsP Try.prog 6 [.agg [.lst 1 (n) (rowsI (m) (D))], .one (.lst 1 (n') (rowsI (m') (D'))), .one (.g (.int .i64 (af)))] (.t (.one (.g (.bool (true))))) := by
  refine CallsP_of Try.func6 rfl (by rw [Try.ntmps6]; simp) ?_
  simp only [Try.ntmps6, List.map_cons, List.map_nil, PT.tv, argEnv, Nat.zero_add, Nat.reduceAdd]
  repeat' (first
    | (with_reducible refine AW_seq_k fun K hK => ?_)
    | ((first | (with_reducible refine And.intro ?_ ?_) | (with_reducible refine Need.mk ?_)); focus (first | exact True.intro | (with_reducible assumption) | omega | (refine ⟨?_, ?_⟩ <;> omega) | (intro _; first | exact True.intro | (with_reducible assumption) | omega) | (intros; (repeat' (first | exact True.intro | omega | (with_reducible assumption) | (with_reducible refine And.intro ?_ ?_))); done) | (simp (disch := omega) only [Bool.and_eq_true, Bool.or_eq_true, decide_eq_true_eq, bne_iff_ne, ne_eq] at *; first | done | omega | (intros; omega)) | (simp; done) | (simp; omega) | (simp +contextual; done) | (intro h; rw [h]; rfl) | (intros; simp_all; done)))
    | (with_reducible refine AW_skip ?_)
    | (with_reducible refine AW_exit ?_)
    | (with_reducible refine AW_ret ?_)
    | (with_reducible refine retK_n ?_)
    | (with_reducible refine retK_n' ?_)
    | (with_reducible refine retH_n rfl rfl rfl ?_)
    | (with_reducible refine retH_n' rfl rfl rfl ?_)
    | (with_reducible refine retO_n ?_ ?_)
    | (with_reducible refine retO_n' ?_ ?_)
    | (with_reducible refine AW_condI ?_)
    | (with_reducible refine AW_block ?_)
    | ((with_reducible refine condN_t ?_ ?_) <;> (intro hc; (try simp only [Bool.and_eq_true, Bool.or_eq_true, Bool.not_eq_true', Bool.and_eq_false_iff, Bool.or_eq_false_iff, decide_eq_true_eq, decide_eq_false_iff_not, bne_iff_ne, beq_iff_eq, reduceCtorEq, bne_eq_false_iff_eq, beq_eq_false_iff_ne, Bool.not_eq_false', Int.not_le, Int.not_lt, Bool.not_not] at hc); (skip); (try (exfalso; first | contradiction | omega))))
    | (with_reducible refine AW_regionP 0 [0, 1, 2] ?_)
    | (with_reducible refine AW_regionP 1 [1, 2, 3] ?_)
    | (with_reducible refine AW_regionP 2 [1, 2, 3, 7] ?_)
    | (with_reducible refine AW_regionP 3 [7] ?_)
    | (with_reducible refine AW_regionP 4 [1, 2, 3, 7] ?_)
    | (with_reducible refine AW_regionP 5 [1, 2, 3, 7, 8, 9] ?_)
    | (with_reducible refine AW_regionP 6 [1, 2, 3, 7, 8, 9, 10, 11] ?_)
    | (with_reducible refine AW_regionP 7 [7, 9, 11] ?_)
    | (with_reducible refine AW_regionP 8 [1, 2, 3, 7, 8, 10, 11] ?_)
    | (with_reducible refine AW_regionP 9 [1, 2, 7, 8, 10, 11, 12, 13] ?_)
    | (with_reducible refine AW_regionP 10 [1, 2, 7, 10, 11, 12, 13, 14, 15] ?_)
    | (with_reducible refine AW_regionP 11 [1, 2, 7, 10, 11, 12, 13, 14, 15, 16, 17] ?_)
    | (with_reducible refine AW_regionP 12 [1, 2, 7, 10, 12, 16] ?_)
    | (with_reducible refine AW_regionP 13 [1, 7, 10] ?_)
    | (with_reducible refine AW_regionP 14 [1, 7, 18, 19] ?_)
    | (with_reducible refine AW_regionP 15 [1, 7, 19, 20, 21] ?_)
    | (refine callN_q (k := 11) fnok_11 (head_p) ?_ ?_)
    | (refine callN_q (k := 12) fnok_12 (few_p n m D n' m' D' hn hn' hm hm') ?_ ?_)
    | (refine callGN_q (k := 13) fnok_13 (fun hg => valid_p n m D hn hm hD) ?_ ?_)
    | (refine callN_q (k := 29) fnok_29 (compact_p n m D hn hm hD n' m' D' hq hm') ?_ ?_)
    | (refine callN_q (k := 31) fnok_31 (cc_p n m D hn hm hD n' m' D' hq hm' af haf) ?_ ?_)
    | ((fail_if_success (with_reducible show AW _ _ _ _)); simp (maxSteps := 2000000) only [go_sem, reduceIte, reduceCtorEq, Nat.reduceAdd, Nat.reduceLT, Nat.reduceLeDiff, Nat.reduceEqDiff, Nat.reduceMul, Nat.reduceSub, Nat.reduceBEq, Try.f6, fnok_11, ty_24, fnok_12, fnok_13, fnok_29, zc_24, fnok_31, fnok_24, fnok_26, bytI, rowsI, hf, hv_, h0, h3, h4, decide_false])
    | ((with_reducible refine hK _ ?_); clear hK K))

set_option maxRecDepth 100000 in
set_option maxHeartbeats 4000000 in
theorem law6_old_true (n : Nat) (m : Nat → Nat) (D : Nat → Nat → Int) (hn : n ≤ 9223372036854775807) (hm : ∀ i, i < n → m i ≤ 9223372036854775807) (hD : BytD D) (n' : Nat) (m' : Nat → Nat) (D' : Nat → Nat → Int) (hn' : n' ≤ 9223372036854775807) (hm' : ∀ i, i < n' → m' i ≤ 9223372036854775807) (hD' : BytD D') (af : Int) (haf : -9223372036854775808 ≤ af ∧ af ≤ 9223372036854775807) (hf : fewB n m n' m' = true) (hq : n' ≤ 100) (hv_ : vB n m D = true) (h0 : (af < 0) = False) (h1 : rdE n m D = 0) (h3 : cmpE n m D n' m' 1048576 = 0) (h3' : cmpN n m D n' m' 1048576 = n) (h4 : cmpE n m D n' m' af = 0) (h4' : cmpN n m D n' m' af = n) (E : Nat → Nat → Int) (hE : BytD E) (he : cmpD n D n' m' D' 1048576 = E) (h6 : vB n c64 E = true) (h7 : rdE n c64 E = 0) (X : Nat → Nat → Int) (hX : BytD X) (hx_ : cmpD n D n' m' D' af.toNat = X) (x6 : vB n c64 X = true) (x7 : rdE n c64 X = 0) (x8 : cmpE n c64 X n' m' 1048576 = 0) (x9 : cmpN n c64 X n' m' 1048576 = n) (G : Nat → Nat → Int) (hG : BytD G) (hg_ : cmpD n X n' m' D' 1048576 = G) (g7 : rdE n c64 G = 0) (q0 : readN n m D ≤ 1000000) (q1 : readN n c64 E ≤ 1000000) (q2 : readN n c64 X ≤ 1000000) (q3 : readN n c64 G ≤ 1000000) (b1 b2 : Bool) (r1 : recsB (readN n c64 E) (recL (hv n E)) (recF (hv n E)) n' m' D' = true) (r2 : recsB (readN n c64 X) (recL (hv n X)) (recF (hv n X)) n' m' D' = b1) (r3 : recsB (readN n c64 X) (recL (hv n X)) (recF (hv n X)) (readN n m D) (recL (hv n D)) (recF (hv n D)) = b2) (r4 : recsB (readN n c64 G) (recL (hv n G)) (recF (hv n G)) n' m' D' = true) (hb2 : b2 = true) (hb1 : b1 = true) : CallsP Try.prog 6 [.agg [.lst 1 (n) (rowsI (m) (D))], .one (.lst 1 (n') (rowsI (m') (D'))), .one (.g (.int .i64 (af)))] (.t (.one (.g (.bool (true))))) := by
  subst hb2
  subst hb1
  have hz : True := trivial
  refine CallsP_of Try.func6 rfl (by rw [Try.ntmps6]; simp) ?_
  simp only [Try.ntmps6, List.map_cons, List.map_nil, PT.tv, argEnv, Nat.zero_add, Nat.reduceAdd]
  repeat' (first
    | (with_reducible refine AW_seq_k fun K hK => ?_)
    | ((first | (with_reducible refine And.intro ?_ ?_) | (with_reducible refine Need.mk ?_)); focus (first | exact True.intro | (with_reducible assumption) | omega | (refine ⟨?_, ?_⟩ <;> omega) | (intro _; first | exact True.intro | (with_reducible assumption) | omega) | (intros; (repeat' (first | exact True.intro | omega | (with_reducible assumption) | (with_reducible refine And.intro ?_ ?_))); done) | (simp (disch := omega) only [Bool.and_eq_true, Bool.or_eq_true, decide_eq_true_eq, bne_iff_ne, ne_eq] at *; first | done | omega | (intros; omega)) | (simp; done) | (simp; omega) | (simp +contextual; done) | (intro h; rw [h]; rfl) | (intros; simp_all; done)))
    | (with_reducible refine AW_skip ?_)
    | (with_reducible refine AW_exit ?_)
    | (with_reducible refine AW_ret ?_)
    | (with_reducible refine retK_n ?_)
    | (with_reducible refine retK_n' ?_)
    | (with_reducible refine retH_n rfl rfl rfl ?_)
    | (with_reducible refine retH_n' rfl rfl rfl ?_)
    | (with_reducible refine retO_n ?_ ?_)
    | (with_reducible refine retO_n' ?_ ?_)
    | (with_reducible refine AW_condI ?_)
    | (with_reducible refine AW_block ?_)
    | ((with_reducible refine condN_t ?_ ?_) <;> (intro hc; (try simp only [Bool.and_eq_true, Bool.or_eq_true, Bool.not_eq_true', Bool.and_eq_false_iff, Bool.or_eq_false_iff, decide_eq_true_eq, decide_eq_false_iff_not, bne_iff_ne, beq_iff_eq, reduceCtorEq, bne_eq_false_iff_eq, beq_eq_false_iff_ne, Bool.not_eq_false', Int.not_le, Int.not_lt, Bool.not_not] at hc); (skip); (try (exfalso; first | contradiction | omega))))
    | (with_reducible refine AW_regionP 0 [0, 1, 2] ?_)
    | (with_reducible refine AW_regionP 1 [1, 2, 3] ?_)
    | (with_reducible refine AW_regionP 2 [1, 2, 3, 7] ?_)
    | (with_reducible refine AW_regionP 3 [7] ?_)
    | (with_reducible refine AW_regionP 4 [1, 2, 3, 7] ?_)
    | (with_reducible refine AW_regionP 5 [1, 2, 3, 7, 8, 9] ?_)
    | (with_reducible refine AW_regionP 6 [1, 2, 3, 7, 8, 9, 10, 11] ?_)
    | (with_reducible refine AW_regionP 7 [7, 9, 11] ?_)
    | (with_reducible refine AW_regionP 8 [1, 2, 3, 7, 8, 10, 11] ?_)
    | (with_reducible refine AW_regionP 9 [1, 2, 7, 8, 10, 11, 12, 13] ?_)
    | (with_reducible refine AW_regionP 10 [1, 2, 7, 10, 11, 12, 13, 14, 15] ?_)
    | (with_reducible refine AW_regionP 11 [1, 2, 7, 10, 11, 12, 13, 14, 15, 16, 17] ?_)
    | (with_reducible refine AW_regionP 12 [1, 2, 7, 10, 12, 16] ?_)
    | (with_reducible refine AW_regionP 13 [1, 7, 10] ?_)
    | (with_reducible refine AW_regionP 14 [1, 7, 18, 19] ?_)
    | (with_reducible refine AW_regionP 15 [1, 7, 19, 20, 21] ?_)
    | (refine callN_q (k := 11) fnok_11 (head_p) ?_ ?_)
    | (refine callN_q (k := 12) fnok_12 (few_p n m D n' m' D' hn hn' hm hm') ?_ ?_)
    | (refine callGN_q (k := 13) fnok_13 (fun hg => valid_p n m D hn hm hD) ?_ ?_)
    | (refine callN_q (k := 29) fnok_29 (compact_p n m D hn hm hD n' m' D' hq hm') ?_ ?_)
    | (refine callN_q (k := 29) fnok_29 (compact_p n c64 X hn (c64_le n) hX n' m' D' hq hm') ?_ ?_)
    | (refine callN_q (k := 31) fnok_31 (cc_p n m D hn hm hD n' m' D' hq hm' af haf) ?_ ?_)
    | (refine callN_q (k := 24) fnok_24 (read_p n m D hn hm hD) ?_ ?_)
    | (refine callN_q (k := 24) fnok_24 (read_p n c64 E hn (c64_le n) hE) ?_ ?_)
    | (refine callN_q (k := 24) fnok_24 (read_p n c64 X hn (c64_le n) hX) ?_ ?_)
    | (refine callN_q (k := 24) fnok_24 (read_p n c64 G hn (c64_le n) hG) ?_ ?_)
    | (refine callGN_q (k := 26) fnok_26 (fun hg => recs_t (n := readN n c64 E) (m := recL (hv n E)) (D := recF (hv n E)) (n' := n') (m' := m') (D' := D') (by omega) hn' (fun i _ => by have := rl_bd (n := n) hE i; omega) hm' r1) ?_ ?_)
    | (refine callGN_q (k := 26) fnok_26 (fun hg => recs_t (n := readN n c64 X) (m := recL (hv n X)) (D := recF (hv n X)) (n' := n') (m' := m') (D' := D') (by omega) hn' (fun i _ => by have := rl_bd (n := n) hX i; omega) hm' r2) ?_ ?_)
    | (refine callGN_q (k := 26) fnok_26 (fun hg => recs_t (n := readN n c64 X) (m := recL (hv n X)) (D := recF (hv n X)) (n' := readN n m D) (m' := recL (hv n D)) (D' := recF (hv n D)) (by omega) (by omega) (fun i _ => by have := rl_bd (n := n) hX i; omega) (fun i _ => by have := rl_bd (n := n) hD i; omega) r3) ?_ ?_)
    | (refine callGN_q (k := 26) fnok_26 (fun hg => recs_t (n := readN n c64 G) (m := recL (hv n G)) (D := recF (hv n G)) (n' := n') (m' := m') (D' := D') (by omega) hn' (fun i _ => by have := rl_bd (n := n) hG i; omega) hm' r4) ?_ ?_)
    | ((fail_if_success (with_reducible show AW _ _ _ _)); simp (maxSteps := 2000000) only [go_sem, reduceIte, reduceCtorEq, Nat.reduceAdd, Nat.reduceLT, Nat.reduceLeDiff, Nat.reduceEqDiff, Nat.reduceMul, Nat.reduceSub, Nat.reduceBEq, Try.f6, fnok_11, ty_24, fnok_12, fnok_13, fnok_29, zc_24, fnok_31, fnok_24, fnok_26, bytI, rowsI, hf, hv_, h0, h1, h3, h3', h4, h4', he, h6, h7, hx_, x6, x7, x8, x9, hg_, g7, decide_false, decide_true, hz])
    | ((with_reducible refine hK _ ?_); clear hK K))

set_option maxRecDepth 100000 in
set_option maxHeartbeats 4000000 in
theorem law6_old_false (n : Nat) (m : Nat → Nat) (D : Nat → Nat → Int) (hn : n ≤ 9223372036854775807) (hm : ∀ i, i < n → m i ≤ 9223372036854775807) (hD : BytD D) (n' : Nat) (m' : Nat → Nat) (D' : Nat → Nat → Int) (hn' : n' ≤ 9223372036854775807) (hm' : ∀ i, i < n' → m' i ≤ 9223372036854775807) (hD' : BytD D') (af : Int) (haf : -9223372036854775808 ≤ af ∧ af ≤ 9223372036854775807) (hf : fewB n m n' m' = true) (hq : n' ≤ 100) (hv_ : vB n m D = true) (h0 : (af < 0) = False) (h1 : rdE n m D = 0) (h3 : cmpE n m D n' m' 1048576 = 0) (h3' : cmpN n m D n' m' 1048576 = n) (h4 : cmpE n m D n' m' af = 0) (h4' : cmpN n m D n' m' af = n) (E : Nat → Nat → Int) (hE : BytD E) (he : cmpD n D n' m' D' 1048576 = E) (h6 : vB n c64 E = true) (h7 : rdE n c64 E = 0) (X : Nat → Nat → Int) (hX : BytD X) (hx_ : cmpD n D n' m' D' af.toNat = X) (x6 : vB n c64 X = true) (x7 : rdE n c64 X = 0) (x8 : cmpE n c64 X n' m' 1048576 = 0) (x9 : cmpN n c64 X n' m' 1048576 = n) (G : Nat → Nat → Int) (hG : BytD G) (hg_ : cmpD n X n' m' D' 1048576 = G) (g7 : rdE n c64 G = 0) (q0 : readN n m D ≤ 1000000) (q1 : readN n c64 E ≤ 1000000) (q2 : readN n c64 X ≤ 1000000) (q3 : readN n c64 G ≤ 1000000) (b1 b2 : Bool) (r1 : recsB (readN n c64 E) (recL (hv n E)) (recF (hv n E)) n' m' D' = true) (r2 : recsB (readN n c64 X) (recL (hv n X)) (recF (hv n X)) n' m' D' = b1) (r3 : recsB (readN n c64 X) (recL (hv n X)) (recF (hv n X)) (readN n m D) (recL (hv n D)) (recF (hv n D)) = b2) (r4 : recsB (readN n c64 G) (recL (hv n G)) (recF (hv n G)) n' m' D' = true) (hb2 : b2 = true) (hb1 : b1 = false) : CallsP Try.prog 6 [.agg [.lst 1 (n) (rowsI (m) (D))], .one (.lst 1 (n') (rowsI (m') (D'))), .one (.g (.int .i64 (af)))] (.t (.one (.g (.bool (true))))) := by
  subst hb2
  subst hb1
  have hz : True := trivial
  refine CallsP_of Try.func6 rfl (by rw [Try.ntmps6]; simp) ?_
  simp only [Try.ntmps6, List.map_cons, List.map_nil, PT.tv, argEnv, Nat.zero_add, Nat.reduceAdd]
  repeat' (first
    | (with_reducible refine AW_seq_k fun K hK => ?_)
    | ((first | (with_reducible refine And.intro ?_ ?_) | (with_reducible refine Need.mk ?_)); focus (first | exact True.intro | (with_reducible assumption) | omega | (refine ⟨?_, ?_⟩ <;> omega) | (intro _; first | exact True.intro | (with_reducible assumption) | omega) | (intros; (repeat' (first | exact True.intro | omega | (with_reducible assumption) | (with_reducible refine And.intro ?_ ?_))); done) | (simp (disch := omega) only [Bool.and_eq_true, Bool.or_eq_true, decide_eq_true_eq, bne_iff_ne, ne_eq] at *; first | done | omega | (intros; omega)) | (simp; done) | (simp; omega) | (simp +contextual; done) | (intro h; rw [h]; rfl) | (intros; simp_all; done)))
    | (with_reducible refine AW_skip ?_)
    | (with_reducible refine AW_exit ?_)
    | (with_reducible refine AW_ret ?_)
    | (with_reducible refine retK_n ?_)
    | (with_reducible refine retK_n' ?_)
    | (with_reducible refine retH_n rfl rfl rfl ?_)
    | (with_reducible refine retH_n' rfl rfl rfl ?_)
    | (with_reducible refine retO_n ?_ ?_)
    | (with_reducible refine retO_n' ?_ ?_)
    | (with_reducible refine AW_condI ?_)
    | (with_reducible refine AW_block ?_)
    | ((with_reducible refine condN_t ?_ ?_) <;> (intro hc; (try simp only [Bool.and_eq_true, Bool.or_eq_true, Bool.not_eq_true', Bool.and_eq_false_iff, Bool.or_eq_false_iff, decide_eq_true_eq, decide_eq_false_iff_not, bne_iff_ne, beq_iff_eq, reduceCtorEq, bne_eq_false_iff_eq, beq_eq_false_iff_ne, Bool.not_eq_false', Int.not_le, Int.not_lt, Bool.not_not] at hc); (skip); (try (exfalso; first | contradiction | omega))))
    | (with_reducible refine AW_regionP 0 [0, 1, 2] ?_)
    | (with_reducible refine AW_regionP 1 [1, 2, 3] ?_)
    | (with_reducible refine AW_regionP 2 [1, 2, 3, 7] ?_)
    | (with_reducible refine AW_regionP 3 [7] ?_)
    | (with_reducible refine AW_regionP 4 [1, 2, 3, 7] ?_)
    | (with_reducible refine AW_regionP 5 [1, 2, 3, 7, 8, 9] ?_)
    | (with_reducible refine AW_regionP 6 [1, 2, 3, 7, 8, 9, 10, 11] ?_)
    | (with_reducible refine AW_regionP 7 [7, 9, 11] ?_)
    | (with_reducible refine AW_regionP 8 [1, 2, 3, 7, 8, 10, 11] ?_)
    | (with_reducible refine AW_regionP 9 [1, 2, 7, 8, 10, 11, 12, 13] ?_)
    | (with_reducible refine AW_regionP 10 [1, 2, 7, 10, 11, 12, 13, 14, 15] ?_)
    | (with_reducible refine AW_regionP 11 [1, 2, 7, 10, 11, 12, 13, 14, 15, 16, 17] ?_)
    | (with_reducible refine AW_regionP 12 [1, 2, 7, 10, 12, 16] ?_)
    | (with_reducible refine AW_regionP 13 [1, 7, 10] ?_)
    | (with_reducible refine AW_regionP 14 [1, 7, 18, 19] ?_)
    | (with_reducible refine AW_regionP 15 [1, 7, 19, 20, 21] ?_)
    | (refine callN_q (k := 11) fnok_11 (head_p) ?_ ?_)
    | (refine callN_q (k := 12) fnok_12 (few_p n m D n' m' D' hn hn' hm hm') ?_ ?_)
    | (refine callGN_q (k := 13) fnok_13 (fun hg => valid_p n m D hn hm hD) ?_ ?_)
    | (refine callN_q (k := 29) fnok_29 (compact_p n m D hn hm hD n' m' D' hq hm') ?_ ?_)
    | (refine callN_q (k := 29) fnok_29 (compact_p n c64 X hn (c64_le n) hX n' m' D' hq hm') ?_ ?_)
    | (refine callN_q (k := 31) fnok_31 (cc_p n m D hn hm hD n' m' D' hq hm' af haf) ?_ ?_)
    | (refine callN_q (k := 24) fnok_24 (read_p n m D hn hm hD) ?_ ?_)
    | (refine callN_q (k := 24) fnok_24 (read_p n c64 E hn (c64_le n) hE) ?_ ?_)
    | (refine callN_q (k := 24) fnok_24 (read_p n c64 X hn (c64_le n) hX) ?_ ?_)
    | (refine callN_q (k := 24) fnok_24 (read_p n c64 G hn (c64_le n) hG) ?_ ?_)
    | (refine callGN_q (k := 26) fnok_26 (fun hg => recs_t (n := readN n c64 E) (m := recL (hv n E)) (D := recF (hv n E)) (n' := n') (m' := m') (D' := D') (by omega) hn' (fun i _ => by have := rl_bd (n := n) hE i; omega) hm' r1) ?_ ?_)
    | (refine callGN_q (k := 26) fnok_26 (fun hg => recs_t (n := readN n c64 X) (m := recL (hv n X)) (D := recF (hv n X)) (n' := n') (m' := m') (D' := D') (by omega) hn' (fun i _ => by have := rl_bd (n := n) hX i; omega) hm' r2) ?_ ?_)
    | (refine callGN_q (k := 26) fnok_26 (fun hg => recs_t (n := readN n c64 X) (m := recL (hv n X)) (D := recF (hv n X)) (n' := readN n m D) (m' := recL (hv n D)) (D' := recF (hv n D)) (by omega) (by omega) (fun i _ => by have := rl_bd (n := n) hX i; omega) (fun i _ => by have := rl_bd (n := n) hD i; omega) r3) ?_ ?_)
    | (refine callGN_q (k := 26) fnok_26 (fun hg => recs_t (n := readN n c64 G) (m := recL (hv n G)) (D := recF (hv n G)) (n' := n') (m' := m') (D' := D') (by omega) hn' (fun i _ => by have := rl_bd (n := n) hG i; omega) hm' r4) ?_ ?_)
    | ((fail_if_success (with_reducible show AW _ _ _ _)); simp (maxSteps := 2000000) only [go_sem, reduceIte, reduceCtorEq, Nat.reduceAdd, Nat.reduceLT, Nat.reduceLeDiff, Nat.reduceEqDiff, Nat.reduceMul, Nat.reduceSub, Nat.reduceBEq, Try.f6, fnok_11, ty_24, fnok_12, fnok_13, fnok_29, zc_24, fnok_31, fnok_24, fnok_26, bytI, rowsI, hf, hv_, h0, h1, h3, h3', h4, h4', he, h6, h7, hx_, x6, x7, x8, x9, hg_, g7, decide_false, decide_true, hz])
    | ((with_reducible refine hK _ ?_); clear hK K))

set_option maxRecDepth 100000 in
set_option maxHeartbeats 4000000 in
theorem law6_new (n : Nat) (m : Nat → Nat) (D : Nat → Nat → Int) (hn : n ≤ 9223372036854775807) (hm : ∀ i, i < n → m i ≤ 9223372036854775807) (hD : BytD D) (n' : Nat) (m' : Nat → Nat) (D' : Nat → Nat → Int) (hn' : n' ≤ 9223372036854775807) (hm' : ∀ i, i < n' → m' i ≤ 9223372036854775807) (hD' : BytD D') (af : Int) (haf : -9223372036854775808 ≤ af ∧ af ≤ 9223372036854775807) (hf : fewB n m n' m' = true) (hq : n' ≤ 100) (hv_ : vB n m D = true) (h0 : (af < 0) = False) (h1 : rdE n m D = 0) (h3 : cmpE n m D n' m' 1048576 = 0) (h3' : cmpN n m D n' m' 1048576 = n) (h4 : cmpE n m D n' m' af = 0) (h4' : cmpN n m D n' m' af = n) (E : Nat → Nat → Int) (hE : BytD E) (he : cmpD n D n' m' D' 1048576 = E) (h6 : vB n c64 E = true) (h7 : rdE n c64 E = 0) (X : Nat → Nat → Int) (hX : BytD X) (hx_ : cmpD n D n' m' D' af.toNat = X) (x6 : vB n c64 X = true) (x7 : rdE n c64 X = 0) (x8 : cmpE n c64 X n' m' 1048576 = 0) (x9 : cmpN n c64 X n' m' 1048576 = n) (G : Nat → Nat → Int) (hG : BytD G) (hg_ : cmpD n X n' m' D' 1048576 = G) (g7 : rdE n c64 G = 0) (q0 : readN n m D ≤ 1000000) (q1 : readN n c64 E ≤ 1000000) (q2 : readN n c64 X ≤ 1000000) (q3 : readN n c64 G ≤ 1000000) (b1 b2 : Bool) (r1 : recsB (readN n c64 E) (recL (hv n E)) (recF (hv n E)) n' m' D' = true) (r2 : recsB (readN n c64 X) (recL (hv n X)) (recF (hv n X)) n' m' D' = b1) (r3 : recsB (readN n c64 X) (recL (hv n X)) (recF (hv n X)) (readN n m D) (recL (hv n D)) (recF (hv n D)) = b2) (r4 : recsB (readN n c64 G) (recL (hv n G)) (recF (hv n G)) n' m' D' = true) (hb1 : b1 = true) (hpos : (af > 0) = True)  : CallsP Try.prog 6 [.agg [.lst 1 (n) (rowsI (m) (D))], .one (.lst 1 (n') (rowsI (m') (D'))), .one (.g (.int .i64 (af)))] (.t (.one (.g (.bool (true))))) := by
  subst hb1
  have hz := hpos
  refine CallsP_of Try.func6 rfl (by rw [Try.ntmps6]; simp) ?_
  simp only [Try.ntmps6, List.map_cons, List.map_nil, PT.tv, argEnv, Nat.zero_add, Nat.reduceAdd]
  repeat' (first
    | (with_reducible refine AW_seq_k fun K hK => ?_)
    | ((first | (with_reducible refine And.intro ?_ ?_) | (with_reducible refine Need.mk ?_)); focus (first | exact True.intro | (with_reducible assumption) | omega | (refine ⟨?_, ?_⟩ <;> omega) | (intro _; first | exact True.intro | (with_reducible assumption) | omega) | (intros; (repeat' (first | exact True.intro | omega | (with_reducible assumption) | (with_reducible refine And.intro ?_ ?_))); done) | (simp (disch := omega) only [Bool.and_eq_true, Bool.or_eq_true, decide_eq_true_eq, bne_iff_ne, ne_eq] at *; first | done | omega | (intros; omega)) | (simp; done) | (simp; omega) | (simp +contextual; done) | (intro h; rw [h]; rfl) | (intros; simp_all; done)))
    | (with_reducible refine AW_skip ?_)
    | (with_reducible refine AW_exit ?_)
    | (with_reducible refine AW_ret ?_)
    | (with_reducible refine retK_n ?_)
    | (with_reducible refine retK_n' ?_)
    | (with_reducible refine retH_n rfl rfl rfl ?_)
    | (with_reducible refine retH_n' rfl rfl rfl ?_)
    | (with_reducible refine retO_n ?_ ?_)
    | (with_reducible refine retO_n' ?_ ?_)
    | (with_reducible refine AW_condI ?_)
    | (with_reducible refine AW_block ?_)
    | ((with_reducible refine condN_t ?_ ?_) <;> (intro hc; (try simp only [Bool.and_eq_true, Bool.or_eq_true, Bool.not_eq_true', Bool.and_eq_false_iff, Bool.or_eq_false_iff, decide_eq_true_eq, decide_eq_false_iff_not, bne_iff_ne, beq_iff_eq, reduceCtorEq, bne_eq_false_iff_eq, beq_eq_false_iff_ne, Bool.not_eq_false', Int.not_le, Int.not_lt, Bool.not_not] at hc); (skip); (try (exfalso; first | contradiction | omega))))
    | (with_reducible refine AW_regionP 0 [0, 1, 2] ?_)
    | (with_reducible refine AW_regionP 1 [1, 2, 3] ?_)
    | (with_reducible refine AW_regionP 2 [1, 2, 3, 7] ?_)
    | (with_reducible refine AW_regionP 3 [7] ?_)
    | (with_reducible refine AW_regionP 4 [1, 2, 3, 7] ?_)
    | (with_reducible refine AW_regionP 5 [1, 2, 3, 7, 8, 9] ?_)
    | (with_reducible refine AW_regionP 6 [1, 2, 3, 7, 8, 9, 10, 11] ?_)
    | (with_reducible refine AW_regionP 7 [7, 9, 11] ?_)
    | (with_reducible refine AW_regionP 8 [1, 2, 3, 7, 8, 10, 11] ?_)
    | (with_reducible refine AW_regionP 9 [1, 2, 7, 8, 10, 11, 12, 13] ?_)
    | (with_reducible refine AW_regionP 10 [1, 2, 7, 10, 11, 12, 13, 14, 15] ?_)
    | (with_reducible refine AW_regionP 11 [1, 2, 7, 10, 11, 12, 13, 14, 15, 16, 17] ?_)
    | (with_reducible refine AW_regionP 12 [1, 2, 7, 10, 12, 16] ?_)
    | (with_reducible refine AW_regionP 13 [1, 7, 10] ?_)
    | (with_reducible refine AW_regionP 14 [1, 7, 18, 19] ?_)
    | (with_reducible refine AW_regionP 15 [1, 7, 19, 20, 21] ?_)
    | (refine callN_q (k := 11) fnok_11 (head_p) ?_ ?_)
    | (refine callN_q (k := 12) fnok_12 (few_p n m D n' m' D' hn hn' hm hm') ?_ ?_)
    | (refine callGN_q (k := 13) fnok_13 (fun hg => valid_p n m D hn hm hD) ?_ ?_)
    | (refine callN_q (k := 29) fnok_29 (compact_p n m D hn hm hD n' m' D' hq hm') ?_ ?_)
    | (refine callN_q (k := 29) fnok_29 (compact_p n c64 X hn (c64_le n) hX n' m' D' hq hm') ?_ ?_)
    | (refine callN_q (k := 31) fnok_31 (cc_p n m D hn hm hD n' m' D' hq hm' af haf) ?_ ?_)
    | (refine callN_q (k := 24) fnok_24 (read_p n m D hn hm hD) ?_ ?_)
    | (refine callN_q (k := 24) fnok_24 (read_p n c64 E hn (c64_le n) hE) ?_ ?_)
    | (refine callN_q (k := 24) fnok_24 (read_p n c64 X hn (c64_le n) hX) ?_ ?_)
    | (refine callN_q (k := 24) fnok_24 (read_p n c64 G hn (c64_le n) hG) ?_ ?_)
    | (refine callGN_q (k := 26) fnok_26 (fun hg => recs_t (n := readN n c64 E) (m := recL (hv n E)) (D := recF (hv n E)) (n' := n') (m' := m') (D' := D') (by omega) hn' (fun i _ => by have := rl_bd (n := n) hE i; omega) hm' r1) ?_ ?_)
    | (refine callGN_q (k := 26) fnok_26 (fun hg => recs_t (n := readN n c64 X) (m := recL (hv n X)) (D := recF (hv n X)) (n' := n') (m' := m') (D' := D') (by omega) hn' (fun i _ => by have := rl_bd (n := n) hX i; omega) hm' r2) ?_ ?_)
    | (refine callGN_q (k := 26) fnok_26 (fun hg => recs_t (n := readN n c64 X) (m := recL (hv n X)) (D := recF (hv n X)) (n' := readN n m D) (m' := recL (hv n D)) (D' := recF (hv n D)) (by omega) (by omega) (fun i _ => by have := rl_bd (n := n) hX i; omega) (fun i _ => by have := rl_bd (n := n) hD i; omega) r3) ?_ ?_)
    | (refine callGN_q (k := 26) fnok_26 (fun hg => recs_t (n := readN n c64 G) (m := recL (hv n G)) (D := recF (hv n G)) (n' := n') (m' := m') (D' := D') (by omega) hn' (fun i _ => by have := rl_bd (n := n) hG i; omega) hm' r4) ?_ ?_)
    | ((fail_if_success (with_reducible show AW _ _ _ _)); simp (maxSteps := 2000000) only [go_sem, reduceIte, reduceCtorEq, Nat.reduceAdd, Nat.reduceLT, Nat.reduceLeDiff, Nat.reduceEqDiff, Nat.reduceMul, Nat.reduceSub, Nat.reduceBEq, Try.f6, fnok_11, ty_24, fnok_12, fnok_13, fnok_29, zc_24, fnok_31, fnok_24, fnok_26, bytI, rowsI, hf, hv_, h0, h1, h3, h3', h4, h4', he, h6, h7, hx_, x6, x7, x8, x9, hg_, g7, decide_false, decide_true, hz])
    | ((with_reducible refine hK _ ?_); clear hK K))

theorem law6 (n : Nat) (m : Nat → Nat) (D : Nat → Nat → Int) (hn : n ≤ 9223372036854775807) (hm : ∀ i, i < n → m i ≤ 9223372036854775807) (hD : BytD D) (n' : Nat) (m' : Nat → Nat) (D' : Nat → Nat → Int) (hn' : n' ≤ 9223372036854775807) (hm' : ∀ i, i < n' → m' i ≤ 9223372036854775807) (hD' : BytD D') (af : Int) (haf : -9223372036854775808 ≤ af ∧ af ≤ 9223372036854775807) : CallsP Try.prog 6 [.agg [.lst 1 (n) (rowsI (m) (D))], .one (.lst 1 (n') (rowsI (m') (D'))), .one (.g (.int .i64 (af)))] (.t (.one (.g (.bool true)))) := by
  cases hf : fewB n m n' m' with
  | false => exact law6_b n m D hn hm hD n' m' D' hn' hm' hD' af haf (Or.inl hf)
  | true =>
    cases hv_ : vB n m D with
    | false => exact law6_b n m D hn hm hD n' m' D' hn' hm' hD' af haf (Or.inr (Or.inl hv_))
    | true =>
      by_cases h0 : af < 0
      · exact law6_b n m D hn hm hD n' m' D' hn' hm' hD' af haf (Or.inr (Or.inr h0))
      · obtain ⟨hn17, hq20, hl⟩ := few_rs hf
        have hlm : ∀ i, i < n' → m' i ≤ 65535 := fun i hi => by have := hl i hi; omega
        obtain ⟨c1, c2⟩ := cmp_val (n := n) (m := m) (D := D) (n' := n') (m' := m') (af := af) hv_ hlm (by omega)
        obtain ⟨d1, d2⟩ := cmp_val (n := n) (m := m) (D := D) (n' := n') (m' := m') (af := 1048576) hv_ hlm (by decide)
        have hh : hlf n ≤ 8 := by unfold hlf; omega
        by_cases hfit : encP m' n' ≤ hlf n * 64
        · obtain ⟨k, hs, hk1, hk, hok⟩ := vB_parts hD hv_
          have hD0 : D 0 0 ≤ 1 := by omega
          have hE : BytD (cmpD n D n' m' D' 1048576) := cmpD_b hD hD0 hD'
          have hX : BytD (cmpD n D n' m' D' af.toNat) := cmpD_b hD hD0 hD'
          have hnE := cmp_new hD n' m' D' hv_ hlm hfit (show hlf n * 64 < 1048576 by omega)
          have lD := readN_le (n := n) (m := m) (D := D)
          have lE := readN_le (n := n) (m := c64) (D := cmpD n D n' m' D' 1048576)
          have lX := readN_le (n := n) (m := c64) (D := cmpD n D n' m' D' af.toNat)
          have rest : ∀ X : Nat → Nat → Int, BytD X → vB n c64 X = true → BytD (cmpD n X n' m' D' 1048576) ∧ (cmpE n c64 X n' m' 1048576 = 0 ∧ cmpN n c64 X n' m' 1048576 = n) ∧ Has n c64 (cmpD n X n' m' D' 1048576) n' m' D' ∧ readN n c64 (cmpD n X n' m' D' 1048576) ≤ 1000000 := fun X hX hvX => by
            obtain ⟨k2, hs2, hk2, hkX, _⟩ := vB_parts hX hvX
            obtain ⟨e1, _⟩ := cmp_val (n := n) (m := c64) (D := X) (n' := n') (m' := m') (af := 1048576) hvX hlm (by decide)
            have lG := readN_le (n := n) (m := c64) (D := cmpD n X n' m' D' 1048576)
            exact ⟨cmpD_b hX (by omega) hD', e1 hfit, cmp_new hX n' m' D' hvX hlm hfit (by omega), by omega⟩
          by_cases hsw : hlf n * 64 < af.toNat
          · have hnX := cmp_new hD n' m' D' hv_ hlm hfit hsw
            obtain ⟨e1, e2, e3, e4⟩ := rest _ hX hnX.v
            exact law6_new n m D hn hm hD n' m' D' hn' hm' hD' af haf hf (by omega) hv_ (eq_false h0) (rdE_has hv_) (d1 hfit).1 (d1 hfit).2 (c1 hfit).1 (c1 hfit).2 _ hE rfl hnE.v (rdE_has hnE.v) _ hX rfl hnX.v (rdE_has hnX.v) e2.1 e2.2 _ e1 rfl (rdE_has e3.v) (by omega) (by omega) (by omega) e4 _ _ hnE.recs rfl rfl e3.recs hnX.recs (eq_true (by omega))
          · have hoX := cmp_old hD n' m' D' hv_ (show af.toNat ≤ hlf n * 64 by omega)
            obtain ⟨e1, e2, e3, e4⟩ := rest _ hX hoX.v
            cases hb : recsB (readN n c64 (cmpD n D n' m' D' af.toNat)) (recL (hv n (cmpD n D n' m' D' af.toNat))) (recF (hv n (cmpD n D n' m' D' af.toNat))) n' m' D' with
            | true => exact law6_old_true n m D hn hm hD n' m' D' hn' hm' hD' af haf hf (by omega) hv_ (eq_false h0) (rdE_has hv_) (d1 hfit).1 (d1 hfit).2 (c1 hfit).1 (c1 hfit).2 _ hE rfl hnE.v (rdE_has hnE.v) _ hX rfl hoX.v (rdE_has hoX.v) e2.1 e2.2 _ e1 rfl (rdE_has e3.v) (by omega) (by omega) (by omega) e4 _ _ hnE.recs hb rfl e3.recs hoX.recs rfl
            | false => exact law6_old_false n m D hn hm hD n' m' D' hn' hm' hD' af haf hf (by omega) hv_ (eq_false h0) (rdE_has hv_) (d1 hfit).1 (d1 hfit).2 (c1 hfit).1 (c1 hfit).2 _ hE rfl hnE.v (rdE_has hnE.v) _ hX rfl hoX.v (rdE_has hoX.v) e2.1 e2.2 _ e1 rfl (rdE_has e3.v) (by omega) (by omega) (by omega) e4 _ _ hnE.recs hb rfl e3.recs hoX.recs rfl
        · exact law6_full n m D hn hm hD n' m' D' hn' hm' hD' af haf hf (by omega) hv_ (eq_false h0) (d2 hfit) (c2 hfit)

end Go.Proofs.Ytifoncmlelinjaa
