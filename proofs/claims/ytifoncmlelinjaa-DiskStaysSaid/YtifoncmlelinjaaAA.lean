/- AA: walks on abstract states. -/
import Derived.Test.YtifoncmlelinjaaX
set_option linter.unusedVariables false
set_option linter.unusedSimpArgs false
namespace Go.Proofs.Ytifoncmlelinjaa
open Go.RowKit Go.Sea
attribute [local go_sem] callK_N gf gk gdrop lkL setL lsF ltAll rdyL bodyF roundQ roundS loopQ loopS jumpOf inLs yV yA bAV zipPut purgeG_nil purgeG_cons List.tail_cons Option.isNone_none Option.isNone_some callGK_f callDK_f callDGK_f retN retHN blockA arun_nil arun_plain arun_guard plainF guardF guardB arunD_nil arunD_plain arunD_guard plainDF guardDF guardDB AS.ent Eff.noApp Eff.tgt ftF AV.refs TV.refs CV.refs LV.refs Op.operands Call.operands List.append_toArray List.push_toArray List.flatMap_cons List.flatMap_nil List.toList_toArray Option.toArray nidF nidA List.reverse_cons List.reverse_nil opF AS.ev constA lk AS.get AV.tv AV.nd AS.eff AS.put argEnv PT.tv PV.av AV.mbOf hset hget TV.cells dstOk thenA gB isB toB TV.bool? TV.int? intF loadF storeF fieldF indexF lenF sliceF optI appF minmaxF fillF partsF lvsF TV.lv LV.tv purgeE purgeC purgeH AV.purge CV.purge AV.has TV.has CV.has LV.has calleeF argsF tvsF toPT toIV toIVs toPTs toPV iA bA List.map_cons List.map_nil List.length_nil List.length_cons List.getElem?_cons_zero List.getElem?_cons_succ List.getElem?_nil Option.getD_some Option.getD_none Option.bind_some Option.bind_none List.take_succ_cons List.take_zero List.drop_succ_cons List.drop_zero List.take_nil List.drop_nil List.cons_append List.nil_append List.append_nil List.getD_cons_zero List.getD_cons_succ Option.map_some Option.map_none Option.isSome_some Option.isSome_none List.size_toArray List.any_cons List.any_nil List.mem_cons if_true if_false ite_true ite_false cond_true cond_false Nat.zero_add Nat.add_zero Nat.sub_zero Nat.le_refl Nat.zero_mul Nat.mul_zero Nat.one_mul Nat.mul_one Int.toNat_zero Int.toNat_natCast Bool.or_false Bool.false_or Bool.or_true Bool.true_or Bool.and_true Bool.true_and Bool.and_false Bool.false_and beq_self_eq_true beq_true beq_false Bool.not_true Bool.not_false and_true true_and and_false false_and and_self imp_self Bool.cond_false_right Bool.cond_true_left implies_true forall_const true_implies false_implies Option.some.injEq Prod.mk.injEq ne_eq not_false_eq_true not_true_eq_false eq_self Nat.lt_irrefl Nat.not_lt_zero op2F ncF slice3F offF slArrF copyF clearF toArrF callDK_t calleeT eqN barOp boF seaMin seaMax seaNat1 seaNat2 Value.bool.injEq Value.int.injEq srcF TV.dp IV.eqv PT.eqv PV.eqv All2 keepE hupd callZ_N AS.frz AS.frzW frzs frzsOk frzOk frzE frzA frzT frzC frzG frzH hdel cmpS eqF eqC gvs eqVs eqV decide_true resF tupA inlQ okL okGL okG nextL nextF barOpN AS.mv mvE mvG_nil mvG_cons mvH mvO AV.mv TV.mv CV.mv LV.mv famL_mv famL_purge famL_snoc famL_zero wkH wkC wkV nilA nilC AV.ok TV.ok CV.ok LV.ok okB forall_eq_or_imp forall_eq List.not_mem_nil List.mem_singleton true_or or_true or_false false_or or_self exists_prop AV.t.injEq TV.one.injEq CV.iv.injEq IV.g.injEq TV.agg.injEq List.cons.injEq repC_0 repC_1 repC_2 repC_3 rowV_len rowV_pur rowV_has rowV_frz frzC isIv_iv civ_iv rowV_all List.map_append retON AV.to TV.to CV.to


/-- What an append changes lies in the half that holds, not ahead of its end. -/
theorem apH_diff {n : Nat} {m : Nat → Nat} {D : Nat → Nat → Int} (hD : BytD D) {r : Nat} {R : Nat → Int} {af : Nat} (hv_ : vB n m D = true) (hfit : fitB n D r = true) {k : Nat} (hk : D 0 0 = (k : Int)) {i j : Nat} (hi : i < n) (hj : j < 64) :
    apH n D r R af i j = D i j ∨ (firstN n k ≤ i ∧ i < firstN n k + hlf n ∧ endP (hv n D) (hlf n * 64) ≤ (i - firstN n k) * 64 + j) := by
  obtain ⟨k2, hs, hk1, hk2, hk', hok, hh, hf, hc⟩ := cut_parts hD R af hv_ hfit
  obtain rfl : k2 = k := by omega
  by_cases ho : firstN n k2 ≤ i ∧ i < firstN n k2 + hlf n
  · by_cases he : endP (hv n D) (hlf n * 64) ≤ (i - firstN n k2) * 64 + j
    · exact Or.inr ⟨ho.1, ho.2, he⟩
    · refine Or.inl ?_
      have h := hc ((i - firstN n k2) * 64 + j) (by omega)
      have e1 : halfF n (apH n D r R af) k2 ((i - firstN n k2) * 64 + j) = apH n D r R af i j := by
        rw [half_at hj, show firstN n k2 + (i - firstN n k2) = i by omega]
      have e2 : halfF n D k2 ((i - firstN n k2) * 64 + j) = D i j := by
        rw [half_at hj, show firstN n k2 + (i - firstN n k2) = i by omega]
      rw [← hh] at h
      rw [e1, ap1_lt (by omega), ap2_lt (by omega)] at h
      rw [hh, e2] at h
      simpa using h
  · refine Or.inl ?_
    have e0 : apH n D r R af = apD D (halfF n D k2) (firstN n k2) (endP (halfF n D k2) (hlf n * 64)) r (hlf n * 64) R af := by unfold apH; rw [hh, hk, Int.toNat_natCast]
    rw [e0]
    generalize endP (halfF n D k2) (hlf n * 64) = e at *
    have hsec : secsN e r (hlf n * 64) = lastN e r (hlf n * 64) / 64 + 1 - e / 64 := rfl
    have hlast : lastN e r (hlf n * 64) = min (e + (r + 3)) (hlf n * 64 - 1) := rfl
    unfold apD
    generalize hX : wrR D (ap1 (halfF n D k2) e r R) (firstN n k2 + e / 64) (e / 64) af (secsN e r (hlf n * 64)) = X
    have h0 : X i j = D i j := by
      rw [← hX]; unfold wrR; rw [if_neg (by omega)]
    unfold wrR
    rw [if_neg (by omega)]
    exact h0

set_option maxRecDepth 100000 in
set_option maxHeartbeats 4000000 in
theorem law10_b (n : Nat) (m : Nat → Nat) (D : Nat → Nat → Int) (hn : n ≤ 9223372036854775807) (hm : ∀ i, i < n → m i ≤ 9223372036854775807) (hD : BytD D) (r : Nat) (R : Nat → Int) (hr : r ≤ 9223372036854775807) (hR : Byt R) (af : Int) (haf : -9223372036854775808 ≤ af ∧ af ≤ 9223372036854775807) (hb : (fewB n m 1 fun _ => r) = false ∨ vB n m D = false) : CallsP Try.prog 10 [.agg [.lst 1 (n) (rowsI (m) (D))], .one (.lst 1 (r) (bytI (R))), .one (.g (.int .i64 (af)))] (.t (.one (.g (.bool (true))))) := by
  refine CallsP_of Try.func10 rfl (by rw [Try.ntmps10]; simp) ?_
  simp only [Try.ntmps10, List.map_cons, List.map_nil, PT.tv, argEnv, Nat.zero_add, Nat.reduceAdd]
  repeat' (first
    | ((refine callN_q (k := 12) fnok_12 (few_1 (R := R) hn hm hr ?_) ?_ ?_); (focus (intro i o hi ho; first | exact IV.eqv_refl _ | (obtain rfl : o = 0 := (by omega); rcases i with _ | _ | i <;> first | omega | exact IV.eqv_refl _ | (refine ⟨rfl, rfl, fun i o hi ho => ?_⟩; obtain rfl : o = 0 := (by omega); first | exact IV.eqv_refl _ | (rcases i with _ | _ | _ | _ | _ | _ | _ | _ | _ | i <;> first | omega | exact IV.eqv_refl _))))))
    | (with_reducible refine AW_seq_k fun K hK => ?_)
    | ((first | (with_reducible refine And.intro ?_ ?_) | (with_reducible refine Need.mk ?_)); focus (first | exact True.intro | (with_reducible assumption) | omega | (refine ⟨?_, ?_⟩ <;> omega) | (intro _; first | exact True.intro | (with_reducible assumption) | omega) | (intros; (repeat' (first | exact True.intro | omega | (with_reducible assumption) | (with_reducible refine And.intro ?_ ?_))); done) | (simp (disch := omega) only [Bool.and_eq_true, Bool.or_eq_true, decide_eq_true_eq, bne_iff_ne, ne_eq] at *; first | done | omega | (intros; omega)) | (simp; done) | (simp; omega) | (simp +contextual; done) | (intro h; rw [h]; rfl) | (intros; simp_all; done)))
    | (with_reducible refine AW_skip ?_)
    | (with_reducible refine AW_exit ?_)
    | (with_reducible refine AW_ret ?_)
    | (with_reducible refine retK_n ?_)
    | (with_reducible refine retK_n' ?_)
    | (with_reducible refine retH_n rfl rfl rfl ?_)
    | (with_reducible refine retH_n' rfl rfl rfl ?_)
    | (with_reducible refine retO_n ?_ ?_)
    | (with_reducible refine retO_n' ?_ ?_)
    | (with_reducible refine AW_condI ?_)
    | (with_reducible refine AW_block ?_)
    | ((with_reducible refine condN_t ?_ ?_) <;> (intro hc; (try simp only [Bool.and_eq_true, Bool.or_eq_true, Bool.not_eq_true', Bool.and_eq_false_iff, Bool.or_eq_false_iff, decide_eq_true_eq, decide_eq_false_iff_not, bne_iff_ne, beq_iff_eq, reduceCtorEq, bne_eq_false_iff_eq, beq_eq_false_iff_ne, Bool.not_eq_false', Int.not_le, Int.not_lt, Bool.not_not] at hc); ((try (exfalso; rcases hb with hb | hb; (have h9 := hc.1; rw [hb] at h9; cases h9); (have h9 := hc.2; rw [hb] at h9; cases h9)))); (try (exfalso; first | contradiction | omega))))
    | (with_reducible refine AW_regionP 0 [0, 1, 2] ?_)
    | (with_reducible refine AW_regionP 1 [1, 2, 3] ?_)
    | (with_reducible refine AW_regionP 2 [1, 2, 3, 7] ?_)
    | (with_reducible refine AW_regionP 3 [7] ?_)
    | (with_reducible refine AW_regionP 4 [1, 2, 3, 7] ?_)
    | (with_reducible refine AW_regionP 5 [2, 3, 7, 8, 9] ?_)
    | (with_reducible refine AW_regionP 6 [2, 3, 7, 8, 9, 10, 11] ?_)
    | (with_reducible refine AW_regionP 7 [2, 7, 9] ?_)
    | (with_reducible refine AW_regionP 8 [3, 7, 8, 10] ?_)
    | (with_reducible refine AW_regionP 9 [3, 7, 8, 10, 12] ?_)
    | (with_reducible refine AW_regionP 10 [3, 7, 8, 12, 72, 73, 74] ?_)
    | (with_reducible refine AW_regionP 11 [3, 7, 8, 12, 72, 73, 74] ?_)
    | (with_reducible refine AW_regionP 12 [3, 7, 8, 12, 14, 72, 73, 74] ?_)
    | (with_reducible refine AW_regionP 13 [3, 7, 8, 12, 72, 73, 74] ?_)
    | ((with_reducible refine AW_prune (c := Code.region 14 _ true) [3, 7, 8, 12] ?_); (with_reducible refine AW_regionD ?_ ?_ ?_ ?_); (focus kernel_rfl); (focus kernel_rfl); (focus kernel_rfl))
    | (with_reducible refine AW_regionP 15 [3, 7, 8, 12, 15] ?_)
    | (with_reducible refine AW_regionP 16 [3, 7, 8, 12, 15, 95, 96] ?_)
    | (with_reducible refine AW_regionP 17 [3, 7, 8, 12, 15, 95, 96] ?_)
    | (with_reducible refine AW_regionP 18 [3, 7, 8, 12, 15, 16, 95, 96] ?_)
    | (with_reducible refine AW_regionP 19 [] ?_)
    | (with_reducible refine AW_regionP 20 [3, 7, 8, 12, 15, 16, 95, 96] ?_)
    | (with_reducible refine AW_regionP 21 [3, 7, 8, 12, 15, 16, 95, 96, 111, 112] ?_)
    | (with_reducible refine AW_regionP 22 [3, 7, 8, 12, 15, 16, 95, 96, 111, 112] ?_)
    | (with_reducible refine AW_regionP 23 [3, 7, 8, 12, 15, 16, 17, 95, 96, 111, 112] ?_)
    | (with_reducible refine AW_regionP 24 [3, 7, 8, 12, 15, 16, 17, 18, 95, 96, 111, 112] ?_)
    | ((with_reducible refine AW_prune (c := Code.region 25 _ true) [3, 7, 8, 12, 15, 16, 17, 18, 19, 95, 96, 111, 112] ?_); (with_reducible refine AW_regionD ?_ ?_ ?_ ?_); (focus kernel_rfl); (focus kernel_rfl); (focus kernel_rfl))
    | (with_reducible refine AW_regionP 26 [] ?_)
    | (with_reducible refine AW_regionP 27 [3, 7, 8, 12, 15, 16, 95, 96, 111, 112] ?_)
    | (with_reducible refine AW_regionP 28 [3, 7, 8, 12, 15, 95, 96] ?_)
    | (with_reducible refine AW_regionP 29 [7] ?_)
    | ((with_reducible refine And.intro ?_ ?_); focus ((with_reducible show chkR _ _ _ = true); kernel_rfl))
    | (refine callN_q (k := 11) fnok_11 (head_p) ?_ ?_)
    | (refine callGN_q (k := 14) fnok_14 (fun hg => rvalid_p n m D hn hm hD) ?_ ?_)
    | (refine callN_q (k := 20) fnok_20 (cut_p n m D hn hm hD r R hr af haf) ?_ ?_)
    | (refine callN_q (k := 24) fnok_24 (read_p n m D hn hm hD) ?_ ?_)
    | ((fail_if_success (with_reducible show AW _ _ _ _)); simp (maxSteps := 2000000) only [go_sem, reduceIte, reduceCtorEq, Nat.reduceAdd, Nat.reduceLT, Nat.reduceLeDiff, Nat.reduceEqDiff, Nat.reduceMul, Nat.reduceSub, Nat.reduceBEq, Try.f10, fnok_11, ty_24, sl_22, zc_25, fnok_12, fnok_14, fnok_20, zc_24, fnok_24, of_24_0, ty_22, le_22, ar_22, ty_25, le_25, sl_25, ar_25, ty_5, in_3, fnok_34, bytI, rowsI])
    | ((fail_if_success (with_reducible show AW _ _ _ _)); simp (disch := omega) only [seaWrap, seaDiv, seaMod])
    | ((with_reducible refine hK _ ?_); clear hK K))

set_option maxRecDepth 100000 in
set_option maxHeartbeats 4000000 in
theorem law10_e1 (n : Nat) (m : Nat → Nat) (D : Nat → Nat → Int) (hn : n ≤ 9223372036854775807) (hm : ∀ i, i < n → m i ≤ 9223372036854775807) (hD : BytD D) (r : Nat) (R : Nat → Int) (hr : r ≤ 9223372036854775807) (hR : Byt R) (af : Int) (haf : -9223372036854775808 ≤ af ∧ af ≤ 9223372036854775807) (hf : (fewB n m 1 fun _ => r) = true) (hv_ : vB n m D = true) (h1 : rdE n m D = 0) (h3 : cutE n m D r af = 1) (h4 : (af < 0) = True) : CallsP Try.prog 10 [.agg [.lst 1 (n) (rowsI (m) (D))], .one (.lst 1 (r) (bytI (R))), .one (.g (.int .i64 (af)))] (.t (.one (.g (.bool (true))))) := by
  refine CallsP_of Try.func10 rfl (by rw [Try.ntmps10]; simp) ?_
  simp only [Try.ntmps10, List.map_cons, List.map_nil, PT.tv, argEnv, Nat.zero_add, Nat.reduceAdd]
  repeat' (first
    | ((refine callN_q (k := 12) fnok_12 (few_1 (R := R) hn hm hr ?_) ?_ ?_); (focus (intro i o hi ho; first | exact IV.eqv_refl _ | (obtain rfl : o = 0 := (by omega); rcases i with _ | _ | i <;> first | omega | exact IV.eqv_refl _ | (refine ⟨rfl, rfl, fun i o hi ho => ?_⟩; obtain rfl : o = 0 := (by omega); first | exact IV.eqv_refl _ | (rcases i with _ | _ | _ | _ | _ | _ | _ | _ | _ | i <;> first | omega | exact IV.eqv_refl _))))))
    | (with_reducible refine AW_seq_k fun K hK => ?_)
    | ((first | (with_reducible refine And.intro ?_ ?_) | (with_reducible refine Need.mk ?_)); focus (first | exact True.intro | (with_reducible assumption) | omega | (refine ⟨?_, ?_⟩ <;> omega) | (intro _; first | exact True.intro | (with_reducible assumption) | omega) | (intros; (repeat' (first | exact True.intro | omega | (with_reducible assumption) | (with_reducible refine And.intro ?_ ?_))); done) | (simp (disch := omega) only [Bool.and_eq_true, Bool.or_eq_true, decide_eq_true_eq, bne_iff_ne, ne_eq] at *; first | done | omega | (intros; omega)) | (simp; done) | (simp; omega) | (simp +contextual; done) | (intro h; rw [h]; rfl) | (intros; simp_all; done)))
    | (with_reducible refine AW_skip ?_)
    | (with_reducible refine AW_exit ?_)
    | (with_reducible refine AW_ret ?_)
    | (with_reducible refine retK_n ?_)
    | (with_reducible refine retK_n' ?_)
    | (with_reducible refine retH_n rfl rfl rfl ?_)
    | (with_reducible refine retH_n' rfl rfl rfl ?_)
    | (with_reducible refine retO_n ?_ ?_)
    | (with_reducible refine retO_n' ?_ ?_)
    | (with_reducible refine AW_condI ?_)
    | (with_reducible refine AW_block ?_)
    | ((with_reducible refine condN_t ?_ ?_) <;> (intro hc; (try simp only [Bool.and_eq_true, Bool.or_eq_true, Bool.not_eq_true', Bool.and_eq_false_iff, Bool.or_eq_false_iff, decide_eq_true_eq, decide_eq_false_iff_not, bne_iff_ne, beq_iff_eq, reduceCtorEq, bne_eq_false_iff_eq, beq_eq_false_iff_ne, Bool.not_eq_false', Int.not_le, Int.not_lt, Bool.not_not] at hc); (skip); (try (exfalso; first | contradiction | omega))))
    | (with_reducible refine AW_regionP 0 [0, 1, 2] ?_)
    | (with_reducible refine AW_regionP 1 [1, 2, 3] ?_)
    | (with_reducible refine AW_regionP 2 [1, 2, 3, 7] ?_)
    | (with_reducible refine AW_regionP 3 [7] ?_)
    | (with_reducible refine AW_regionP 4 [1, 2, 3, 7] ?_)
    | (with_reducible refine AW_regionP 5 [2, 3, 7, 8, 9] ?_)
    | (with_reducible refine AW_regionP 6 [2, 3, 7, 8, 9, 10, 11] ?_)
    | (with_reducible refine AW_regionP 7 [2, 7, 9] ?_)
    | (with_reducible refine AW_regionP 8 [3, 7, 8, 10] ?_)
    | (with_reducible refine AW_regionP 9 [3, 7, 8, 10, 12] ?_)
    | (with_reducible refine AW_regionP 10 [3, 7, 8, 12, 72, 73, 74] ?_)
    | (with_reducible refine AW_regionP 11 [3, 7, 8, 12, 72, 73, 74] ?_)
    | (with_reducible refine AW_regionP 12 [3, 7, 8, 12, 14, 72, 73, 74] ?_)
    | (with_reducible refine AW_regionP 13 [3, 7, 8, 12, 72, 73, 74] ?_)
    | ((with_reducible refine AW_prune (c := Code.region 14 _ true) [3, 7, 8, 12] ?_); (with_reducible refine AW_regionD ?_ ?_ ?_ ?_); (focus kernel_rfl); (focus kernel_rfl); (focus kernel_rfl))
    | (with_reducible refine AW_regionP 15 [3, 7, 8, 12, 15] ?_)
    | (with_reducible refine AW_regionP 16 [3, 7, 8, 12, 15, 95, 96] ?_)
    | (with_reducible refine AW_regionP 17 [3, 7, 8, 12, 15, 95, 96] ?_)
    | (with_reducible refine AW_regionP 18 [3, 7, 8, 12, 15, 16, 95, 96] ?_)
    | (with_reducible refine AW_regionP 19 [] ?_)
    | (with_reducible refine AW_regionP 20 [3, 7, 8, 12, 15, 16, 95, 96] ?_)
    | (with_reducible refine AW_regionP 21 [3, 7, 8, 12, 15, 16, 95, 96, 111, 112] ?_)
    | (with_reducible refine AW_regionP 22 [3, 7, 8, 12, 15, 16, 95, 96, 111, 112] ?_)
    | (with_reducible refine AW_regionP 23 [3, 7, 8, 12, 15, 16, 17, 95, 96, 111, 112] ?_)
    | (with_reducible refine AW_regionP 24 [3, 7, 8, 12, 15, 16, 17, 18, 95, 96, 111, 112] ?_)
    | ((with_reducible refine AW_prune (c := Code.region 25 _ true) [3, 7, 8, 12, 15, 16, 17, 18, 19, 95, 96, 111, 112] ?_); (with_reducible refine AW_regionD ?_ ?_ ?_ ?_); (focus kernel_rfl); (focus kernel_rfl); (focus kernel_rfl))
    | (with_reducible refine AW_regionP 26 [] ?_)
    | (with_reducible refine AW_regionP 27 [3, 7, 8, 12, 15, 16, 95, 96, 111, 112] ?_)
    | (with_reducible refine AW_regionP 28 [3, 7, 8, 12, 15, 95, 96] ?_)
    | (with_reducible refine AW_regionP 29 [7] ?_)
    | ((with_reducible refine And.intro ?_ ?_); focus ((with_reducible show chkR _ _ _ = true); kernel_rfl))
    | (refine callN_q (k := 11) fnok_11 (head_p) ?_ ?_)
    | (refine callGN_q (k := 14) fnok_14 (fun hg => rvalid_p n m D hn hm hD) ?_ ?_)
    | (refine callN_q (k := 20) fnok_20 (cut_p n m D hn hm hD r R hr af haf) ?_ ?_)
    | (refine callN_q (k := 24) fnok_24 (read_p n m D hn hm hD) ?_ ?_)
    | ((fail_if_success (with_reducible show AW _ _ _ _)); simp (maxSteps := 2000000) only [go_sem, reduceIte, reduceCtorEq, Nat.reduceAdd, Nat.reduceLT, Nat.reduceLeDiff, Nat.reduceEqDiff, Nat.reduceMul, Nat.reduceSub, Nat.reduceBEq, Try.f10, fnok_11, ty_24, sl_22, zc_25, fnok_12, fnok_14, fnok_20, zc_24, fnok_24, of_24_0, ty_22, le_22, ar_22, ty_25, le_25, sl_25, ar_25, ty_5, in_3, fnok_34, bytI, rowsI, hf, hv_, h1, h3, decide_true, decide_false, h4])
    | ((fail_if_success (with_reducible show AW _ _ _ _)); simp (disch := omega) only [seaWrap, seaDiv, seaMod])
    | ((with_reducible refine hK _ ?_); clear hK K))

set_option maxRecDepth 100000 in
set_option maxHeartbeats 4000000 in
theorem law10_e2 (n : Nat) (m : Nat → Nat) (D : Nat → Nat → Int) (hn : n ≤ 9223372036854775807) (hm : ∀ i, i < n → m i ≤ 9223372036854775807) (hD : BytD D) (r : Nat) (R : Nat → Int) (hr : r ≤ 9223372036854775807) (hR : Byt R) (af : Int) (haf : -9223372036854775808 ≤ af ∧ af ≤ 9223372036854775807) (hf : (fewB n m 1 fun _ => r) = true) (hv_ : vB n m D = true) (h1 : rdE n m D = 0) (h3 : cutE n m D r af = 17) : CallsP Try.prog 10 [.agg [.lst 1 (n) (rowsI (m) (D))], .one (.lst 1 (r) (bytI (R))), .one (.g (.int .i64 (af)))] (.t (.one (.g (.bool (true))))) := by
  refine CallsP_of Try.func10 rfl (by rw [Try.ntmps10]; simp) ?_
  simp only [Try.ntmps10, List.map_cons, List.map_nil, PT.tv, argEnv, Nat.zero_add, Nat.reduceAdd]
  repeat' (first
    | ((refine callN_q (k := 12) fnok_12 (few_1 (R := R) hn hm hr ?_) ?_ ?_); (focus (intro i o hi ho; first | exact IV.eqv_refl _ | (obtain rfl : o = 0 := (by omega); rcases i with _ | _ | i <;> first | omega | exact IV.eqv_refl _ | (refine ⟨rfl, rfl, fun i o hi ho => ?_⟩; obtain rfl : o = 0 := (by omega); first | exact IV.eqv_refl _ | (rcases i with _ | _ | _ | _ | _ | _ | _ | _ | _ | i <;> first | omega | exact IV.eqv_refl _))))))
    | (with_reducible refine AW_seq_k fun K hK => ?_)
    | ((first | (with_reducible refine And.intro ?_ ?_) | (with_reducible refine Need.mk ?_)); focus (first | exact True.intro | (with_reducible assumption) | omega | (refine ⟨?_, ?_⟩ <;> omega) | (intro _; first | exact True.intro | (with_reducible assumption) | omega) | (intros; (repeat' (first | exact True.intro | omega | (with_reducible assumption) | (with_reducible refine And.intro ?_ ?_))); done) | (simp (disch := omega) only [Bool.and_eq_true, Bool.or_eq_true, decide_eq_true_eq, bne_iff_ne, ne_eq] at *; first | done | omega | (intros; omega)) | (simp; done) | (simp; omega) | (simp +contextual; done) | (intro h; rw [h]; rfl) | (intros; simp_all; done)))
    | (with_reducible refine AW_skip ?_)
    | (with_reducible refine AW_exit ?_)
    | (with_reducible refine AW_ret ?_)
    | (with_reducible refine retK_n ?_)
    | (with_reducible refine retK_n' ?_)
    | (with_reducible refine retH_n rfl rfl rfl ?_)
    | (with_reducible refine retH_n' rfl rfl rfl ?_)
    | (with_reducible refine retO_n ?_ ?_)
    | (with_reducible refine retO_n' ?_ ?_)
    | (with_reducible refine AW_condI ?_)
    | (with_reducible refine AW_block ?_)
    | ((with_reducible refine condN_t ?_ ?_) <;> (intro hc; (try simp only [Bool.and_eq_true, Bool.or_eq_true, Bool.not_eq_true', Bool.and_eq_false_iff, Bool.or_eq_false_iff, decide_eq_true_eq, decide_eq_false_iff_not, bne_iff_ne, beq_iff_eq, reduceCtorEq, bne_eq_false_iff_eq, beq_eq_false_iff_ne, Bool.not_eq_false', Int.not_le, Int.not_lt, Bool.not_not] at hc); (skip); (try (exfalso; first | contradiction | omega))))
    | (with_reducible refine AW_regionP 0 [0, 1, 2] ?_)
    | (with_reducible refine AW_regionP 1 [1, 2, 3] ?_)
    | (with_reducible refine AW_regionP 2 [1, 2, 3, 7] ?_)
    | (with_reducible refine AW_regionP 3 [7] ?_)
    | (with_reducible refine AW_regionP 4 [1, 2, 3, 7] ?_)
    | (with_reducible refine AW_regionP 5 [2, 3, 7, 8, 9] ?_)
    | (with_reducible refine AW_regionP 6 [2, 3, 7, 8, 9, 10, 11] ?_)
    | (with_reducible refine AW_regionP 7 [2, 7, 9] ?_)
    | (with_reducible refine AW_regionP 8 [3, 7, 8, 10] ?_)
    | (with_reducible refine AW_regionP 9 [3, 7, 8, 10, 12] ?_)
    | (with_reducible refine AW_regionP 10 [3, 7, 8, 12, 72, 73, 74] ?_)
    | (with_reducible refine AW_regionP 11 [3, 7, 8, 12, 72, 73, 74] ?_)
    | (with_reducible refine AW_regionP 12 [3, 7, 8, 12, 14, 72, 73, 74] ?_)
    | (with_reducible refine AW_regionP 13 [3, 7, 8, 12, 72, 73, 74] ?_)
    | ((with_reducible refine AW_prune (c := Code.region 14 _ true) [3, 7, 8, 12] ?_); (with_reducible refine AW_regionD ?_ ?_ ?_ ?_); (focus kernel_rfl); (focus kernel_rfl); (focus kernel_rfl))
    | (with_reducible refine AW_regionP 15 [3, 7, 8, 12, 15] ?_)
    | (with_reducible refine AW_regionP 16 [3, 7, 8, 12, 15, 95, 96] ?_)
    | (with_reducible refine AW_regionP 17 [3, 7, 8, 12, 15, 95, 96] ?_)
    | (with_reducible refine AW_regionP 18 [3, 7, 8, 12, 15, 16, 95, 96] ?_)
    | (with_reducible refine AW_regionP 19 [] ?_)
    | (with_reducible refine AW_regionP 20 [3, 7, 8, 12, 15, 16, 95, 96] ?_)
    | (with_reducible refine AW_regionP 21 [3, 7, 8, 12, 15, 16, 95, 96, 111, 112] ?_)
    | (with_reducible refine AW_regionP 22 [3, 7, 8, 12, 15, 16, 95, 96, 111, 112] ?_)
    | (with_reducible refine AW_regionP 23 [3, 7, 8, 12, 15, 16, 17, 95, 96, 111, 112] ?_)
    | (with_reducible refine AW_regionP 24 [3, 7, 8, 12, 15, 16, 17, 18, 95, 96, 111, 112] ?_)
    | ((with_reducible refine AW_prune (c := Code.region 25 _ true) [3, 7, 8, 12, 15, 16, 17, 18, 19, 95, 96, 111, 112] ?_); (with_reducible refine AW_regionD ?_ ?_ ?_ ?_); (focus kernel_rfl); (focus kernel_rfl); (focus kernel_rfl))
    | (with_reducible refine AW_regionP 26 [] ?_)
    | (with_reducible refine AW_regionP 27 [3, 7, 8, 12, 15, 16, 95, 96, 111, 112] ?_)
    | (with_reducible refine AW_regionP 28 [3, 7, 8, 12, 15, 95, 96] ?_)
    | (with_reducible refine AW_regionP 29 [7] ?_)
    | ((with_reducible refine And.intro ?_ ?_); focus ((with_reducible show chkR _ _ _ = true); kernel_rfl))
    | (refine callN_q (k := 11) fnok_11 (head_p) ?_ ?_)
    | (refine callGN_q (k := 14) fnok_14 (fun hg => rvalid_p n m D hn hm hD) ?_ ?_)
    | (refine callN_q (k := 20) fnok_20 (cut_p n m D hn hm hD r R hr af haf) ?_ ?_)
    | (refine callN_q (k := 24) fnok_24 (read_p n m D hn hm hD) ?_ ?_)
    | ((fail_if_success (with_reducible show AW _ _ _ _)); simp (maxSteps := 2000000) only [go_sem, reduceIte, reduceCtorEq, Nat.reduceAdd, Nat.reduceLT, Nat.reduceLeDiff, Nat.reduceEqDiff, Nat.reduceMul, Nat.reduceSub, Nat.reduceBEq, Try.f10, fnok_11, ty_24, sl_22, zc_25, fnok_12, fnok_14, fnok_20, zc_24, fnok_24, of_24_0, ty_22, le_22, ar_22, ty_25, le_25, sl_25, ar_25, ty_5, in_3, fnok_34, bytI, rowsI, hf, hv_, h1, h3, decide_true, decide_false])
    | ((fail_if_success (with_reducible show AW _ _ _ _)); simp (disch := omega) only [seaWrap, seaDiv, seaMod])
    | ((with_reducible refine hK _ ?_); clear hK K))

set_option maxRecDepth 100000 in
set_option maxHeartbeats 4000000 in
theorem law10_ok (n : Nat) (m : Nat → Nat) (D : Nat → Nat → Int) (hn : n ≤ 9223372036854775807) (hm : ∀ i, i < n → m i ≤ 9223372036854775807) (hD : BytD D) (r : Nat) (R : Nat → Int) (hr : r ≤ 9223372036854775807) (hR : Byt R) (af : Int) (haf : -9223372036854775808 ≤ af ∧ af ≤ 9223372036854775807) (hf : (fewB n m 1 fun _ => r) = true) (hv_ : vB n m D = true) (h1 : rdE n m D = 0) (h3 : cutE n m D r af = 0) (h3' : cutN n m D r af = n) (E : Nat → Nat → Int) (he : apH n D r R af.toNat = E) (h3n : 3 ≤ n) (h63 : n ≤ 63) (hm64 : ∀ i, i < n → m i = 64) (k : Nat) (hk1 : k ≤ 1) (hk : D 0 0 = (k : Int)) (q e : Nat) (hq : readN n m D = q) (hq5 : q ≤ 1000000) (M : Nat → Nat) (hM : recL (hv n D) = M) (he2 : encP M q = e) (he3 : e ≤ 4000) (s : Nat) (hs : firstN n k = s) (hs2 : s ≤ 64) (hd : ∀ a, a < n → ∀ c, c < 64 → E a c = D a c ∨ (s ≤ a ∧ a < s + hlf n ∧ e ≤ (a - s) * 64 + c))  : CallsP Try.prog 10 [.agg [.lst 1 (n) (rowsI (m) (D))], .one (.lst 1 (r) (bytI (R))), .one (.g (.int .i64 (af)))] (.t (.one (.g (.bool (true))))) := by
  have hl2 := hlf_int (show 1 ≤ n by omega)
  have hm0 := hm64 0 (by omega)
  have hh : hlf n ≤ 31 := by unfold hlf; omega
  refine CallsP_of Try.func10 rfl (by rw [Try.ntmps10]; simp) ?_
  simp only [Try.ntmps10, List.map_cons, List.map_nil, PT.tv, argEnv, Nat.zero_add, Nat.reduceAdd]
  repeat' (first
    | ((refine callN_q (k := 12) fnok_12 (few_1 (R := R) hn hm hr ?_) ?_ ?_); (focus (intro i o hi ho; first | exact IV.eqv_refl _ | (obtain rfl : o = 0 := (by omega); rcases i with _ | _ | i <;> first | omega | exact IV.eqv_refl _ | (refine ⟨rfl, rfl, fun i o hi ho => ?_⟩; obtain rfl : o = 0 := (by omega); first | exact IV.eqv_refl _ | (rcases i with _ | _ | _ | _ | _ | _ | _ | _ | _ | i <;> first | omega | exact IV.eqv_refl _))))))
    | (with_reducible refine AW_seq_k fun K hK => ?_)
    | ((first | (with_reducible refine And.intro ?_ ?_) | (with_reducible refine Need.mk ?_)); focus (first | exact True.intro | (with_reducible assumption) | omega | (refine ⟨?_, ?_⟩ <;> omega) | (intro _; first | exact True.intro | (with_reducible assumption) | omega) | (intros; (repeat' (first | exact True.intro | omega | (with_reducible assumption) | (with_reducible refine And.intro ?_ ?_))); done) | (simp (disch := omega) only [Bool.and_eq_true, Bool.or_eq_true, decide_eq_true_eq, bne_iff_ne, ne_eq] at *; first | done | omega | (intros; omega)) | (simp; done) | (simp; omega) | (simp +contextual; done) | (intro h; rw [h]; rfl) | (intros; simp_all; done)))
    | (with_reducible refine AW_skip ?_)
    | (with_reducible refine AW_exit ?_)
    | (with_reducible refine AW_ret ?_)
    | (with_reducible refine retK_n ?_)
    | (with_reducible refine retK_n' ?_)
    | (with_reducible refine retH_n rfl rfl rfl ?_)
    | (with_reducible refine retH_n' rfl rfl rfl ?_)
    | (with_reducible refine retO_n ?_ ?_)
    | (with_reducible refine retO_n' ?_ ?_)
    | (with_reducible refine AW_condI ?_)
    | (with_reducible refine AW_block ?_)
    | ((with_reducible refine condN_t ?_ ?_) <;> (intro hc; (try simp only [Bool.and_eq_true, Bool.or_eq_true, Bool.not_eq_true', Bool.and_eq_false_iff, Bool.or_eq_false_iff, decide_eq_true_eq, decide_eq_false_iff_not, bne_iff_ne, beq_iff_eq, reduceCtorEq, bne_eq_false_iff_eq, beq_eq_false_iff_ne, Bool.not_eq_false', Int.not_le, Int.not_lt, Bool.not_not] at hc); ((try (have ha1 : a < n := (by omega); have hc1 : c < 64 := (by omega); have hd9 := hdc ha1 c hc1)); (try (have e0 : q = i := (by omega); subst e0))); (try (exfalso; first | contradiction | omega))))
    | (with_reducible refine AW_regionP 0 [0, 1, 2] ?_)
    | (with_reducible refine AW_regionP 1 [1, 2, 3] ?_)
    | (with_reducible refine AW_regionP 2 [1, 2, 3, 7] ?_)
    | (with_reducible refine AW_regionP 3 [7] ?_)
    | (with_reducible refine AW_regionP 4 [1, 2, 3, 7] ?_)
    | (with_reducible refine AW_regionP 5 [2, 3, 7, 8, 9] ?_)
    | (with_reducible refine AW_regionP 6 [2, 3, 7, 8, 9, 10, 11] ?_)
    | (with_reducible refine AW_regionP 7 [2, 7, 9] ?_)
    | (with_reducible refine AW_regionP 8 [3, 7, 8, 10] ?_)
    | (with_reducible refine AW_regionP 9 [3, 7, 8, 10, 12] ?_)
    | (with_reducible refine AW_regionP 10 [3, 7, 8, 12, 72, 73, 74] ?_)
    | (with_reducible refine AW_regionP 11 [3, 7, 8, 12, 72, 73, 74] ?_)
    | (with_reducible refine AW_regionP 12 [3, 7, 8, 12, 14, 72, 73, 74] ?_)
    | (with_reducible refine AW_regionP 13 [3, 7, 8, 12, 72, 73, 74] ?_)
    | ((with_reducible refine AW_prune (c := Code.region 14 _ true) [3, 7, 8, 12] ?_); (with_reducible refine AW_regionD ?_ ?_ ?_ ?_); (focus kernel_rfl); (focus kernel_rfl); (focus kernel_rfl))
    | (with_reducible refine AW_regionP 15 [3, 7, 8, 12, 15] ?_)
    | (with_reducible refine AW_regionP 16 [3, 7, 8, 12, 15, 95, 96] ?_)
    | (with_reducible refine AW_regionP 17 [3, 7, 8, 12, 15, 95, 96] ?_)
    | (with_reducible refine AW_regionP 18 [3, 7, 8, 12, 15, 16, 95, 96] ?_)
    | (with_reducible refine AW_regionP 19 [] ?_)
    | (with_reducible refine AW_regionP 20 [3, 7, 8, 12, 15, 16, 95, 96] ?_)
    | (with_reducible refine AW_regionP 21 [3, 7, 8, 12, 15, 16, 95, 96, 111, 112] ?_)
    | (with_reducible refine AW_regionP 22 [3, 7, 8, 12, 15, 16, 95, 96, 111, 112] ?_)
    | (with_reducible refine AW_regionP 23 [3, 7, 8, 12, 15, 16, 17, 95, 96, 111, 112] ?_)
    | (with_reducible refine AW_regionP 24 [3, 7, 8, 12, 15, 16, 17, 18, 95, 96, 111, 112] ?_)
    | ((with_reducible refine AW_prune (c := Code.region 25 _ true) [3, 7, 8, 12, 15, 16, 17, 18, 19, 95, 96, 111, 112] ?_); (with_reducible refine AW_regionD ?_ ?_ ?_ ?_); (focus kernel_rfl); (focus kernel_rfl); (focus kernel_rfl))
    | (with_reducible refine AW_regionP 26 [] ?_)
    | (with_reducible refine AW_regionP 27 [3, 7, 8, 12, 15, 16, 95, 96, 111, 112] ?_)
    | (with_reducible refine AW_regionP 28 [3, 7, 8, 12, 15, 95, 96] ?_)
    | (with_reducible refine AW_regionP 29 [7] ?_)
    | ((with_reducible refine And.intro ?_ ?_); focus ((with_reducible show chkR _ _ _ = true); kernel_rfl))
    | (refine callN_q (k := 11) fnok_11 (head_p) ?_ ?_)
    | (refine callGN_q (k := 14) fnok_14 (fun hg => rvalid_p n m D hn hm hD) ?_ ?_)
    | (refine callN_q (k := 20) fnok_20 (cut_p n m D hn hm hD r R hr af haf) ?_ ?_)
    | (refine callN_q (k := 24) fnok_24 (read_p n m D hn hm hD) ?_ ?_)
    | (refine callDN_q (k := 34) fnok_34 (first_p n m D k (by omega) (by omega) (by omega)) ?_ ?_)
    | ((with_reducible refine AW_loopQ (c := (Code.seq (Code.region 10 _ _) _)) (ι := Nat) [3, 7, 8, 72, 73] (fun i => [(12, iA .i64 ((encP M i : Nat) : Int)), (74, iA .i64 (i : Int))]) (fun i => []) (fun i => i ≤ q) (fun i => q - i) 0 ?lg10 ?l110 ?l210 ?li10 ?lr10); (case' lg10 => rintro i _); (case' li10 => try (first | trivial | omega | (simp; done) | (simp; omega))); (case' lr10 => rintro i hi KR hR10; have hb3 := encP_mono M i q hi; have hb4 : i < q → encP M (i + 1) ≤ encP M q := (fun h => encP_mono M (i + 1) q (by omega)); have hb5 : encP M (i + 1) = encP M i + (M i + 3) := rfl; simp only [keepE, hupd, hset, lk, if_true, if_false, Nat.reduceEqDiff, reduceIte, List.cons_append, List.nil_append, bytI, rowsI, hf, hv_, h1, h3, decide_true, decide_false, h3', he, hk, hq, hM, he2, hs, c64, hl2, hm0]))
    | ((with_reducible refine hR10 _ (i + 1) ?_); (try clear hR10 KR))
    | ((with_reducible refine AW_loopQ (c := (Code.seq (Code.region 16 _ _) _)) (ι := Nat) [3, 7, 8, 12, 15, 95] (fun a => [(96, iA .i64 (a : Int))]) (fun a => []) (fun a => a ≤ n) (fun a => n - a) 0 ?lg16 ?l116 ?l216 ?li16 ?lr16); (case' lg16 => rintro a _); (case' li16 => try (first | trivial | omega | (simp; done) | (simp; omega))); (case' lr16 => rintro a ha KR hR16; have hma := hm64 a; simp only [keepE, hupd, hset, lk, if_true, if_false, Nat.reduceEqDiff, reduceIte, List.cons_append, List.nil_append, bytI, rowsI, hf, hv_, h1, h3, decide_true, decide_false, h3', he, hk, hq, hM, he2, hs, c64, hl2, hm0]))
    | ((with_reducible refine hR16 _ (a + 1) ?_); (try clear hR16 KR))
    | ((with_reducible refine AW_loopQ (c := (Code.seq (Code.region 21 _ _) _)) (ι := Nat) [3, 7, 8, 12, 15, 16, 95, 96, 111] (fun c => [(112, iA .i64 (c : Int))]) (fun c => []) (fun c => c ≤ 64) (fun c => 64 - c) 0 ?lg21 ?l121 ?l221 ?li21 ?lr21); (case' lg21 => rintro c _); (case' li21 => try (first | trivial | omega | (simp; done) | (simp; omega))); (case' lr21 => rintro c hc6 KR hR21; have hdc := hd a; simp only [keepE, hupd, hset, lk, if_true, if_false, Nat.reduceEqDiff, reduceIte, List.cons_append, List.nil_append, bytI, rowsI, hf, hv_, h1, h3, decide_true, decide_false, h3', he, hk, hq, hM, he2, hs, c64, hl2, hm0]))
    | ((with_reducible refine hR21 _ (c + 1) ?_); (try clear hR21 KR))
    | ((with_reducible refine Told.mk ?_); simp only [go_sem, reduceIte, reduceCtorEq, Nat.reduceAdd, Nat.reduceLT, Nat.reduceLeDiff, Nat.reduceEqDiff, Nat.reduceMul, Nat.reduceSub, Nat.reduceBEq, bytI, rowsI, hf, hv_, h1, h3, decide_true, decide_false, h3', he, hk, hq, hM, he2, hs, c64, hl2, hm0] <;> (first | exact True.intro | (((try simp (disch := omega) only [seaWrap, Int.natCast_add, Int.cast_ofNat_Int, and_true, true_and, and_self]); (repeat' (first | exact True.intro | omega | rfl | (with_reducible assumption) | (with_reducible refine And.intro ?_ ?_) | (exact all_succ (by assumption) (by assumption)) )); done)) | (refine Stuck.out ?_)))
    | ((fail_if_success (with_reducible show AW _ _ _ _)); simp (maxSteps := 2000000) only [go_sem, reduceIte, reduceCtorEq, Nat.reduceAdd, Nat.reduceLT, Nat.reduceLeDiff, Nat.reduceEqDiff, Nat.reduceMul, Nat.reduceSub, Nat.reduceBEq, Try.f10, fnok_11, ty_24, sl_22, zc_25, fnok_12, fnok_14, fnok_20, zc_24, fnok_24, of_24_0, ty_22, le_22, ar_22, ty_25, le_25, sl_25, ar_25, ty_5, in_3, fnok_34, bytI, rowsI, hf, hv_, h1, h3, decide_true, decide_false, h3', he, hk, hq, hM, he2, hs, c64, hl2, hm0])
    | ((fail_if_success (with_reducible show AW _ _ _ _)); simp (disch := omega) only [seaWrap, seaDiv, seaMod])
    | ((with_reducible refine hK _ ?_); clear hK K)
    | (with_reducible apply_assumption -exfalso only [*]))

theorem law10 (n : Nat) (m : Nat → Nat) (D : Nat → Nat → Int) (hn : n ≤ 9223372036854775807) (hm : ∀ i, i < n → m i ≤ 9223372036854775807) (hD : BytD D) (r : Nat) (R : Nat → Int) (hr : r ≤ 9223372036854775807) (hR : Byt R) (af : Int) (haf : -9223372036854775808 ≤ af ∧ af ≤ 9223372036854775807) : CallsP Try.prog 10 [.agg [.lst 1 (n) (rowsI (m) (D))], .one (.lst 1 (r) (bytI (R))), .one (.g (.int .i64 (af)))] (.t (.one (.g (.bool true)))) := by
  cases hf : fewB n m 1 fun _ => r with
  | false => exact law10_b n m D hn hm hD r R hr hR af haf (Or.inl hf)
  | true =>
    cases hv_ : vB n m D with
    | false => exact law10_b n m D hn hm hD r R hr hR af haf (Or.inr hv_)
    | true =>
      obtain ⟨hn17, hr6⟩ := few1_r hf
      have h1 := rdE_has hv_
      by_cases h0 : af < 0
      · refine law10_e1 n m D hn hm hD r R hr hR af haf hf hv_ h1 ?_ (eq_true h0)
        unfold cutE cutOk
        rw [decide_eq_false (by omega), Bool.and_false]
        rfl
      · obtain ⟨c1, c2⟩ := cut_val (n := n) (m := m) (D := D) (r := r) (af := af) hv_ (by omega) (by omega)
        cases hfit : fitB n D r with
        | false => exact law10_e2 n m D hn hm hD r R hr hR af haf hf hv_ h1 (c2 hfit)
        | true =>
          obtain ⟨k, hs, hk1, hk, hok⟩ := vB_parts hD hv_
          have hsf := Has.self hv_
          have hle := endP_le (hv n D) (hlf n * 64)
          have hlr := readN_le (n := n) (m := m) (D := D)
          have hh : hlf n ≤ 8 := by unfold hlf; omega
          have hfl := firstN_le (n := n) hk1
          refine law10_ok n m D hn hm hD r R hr hR af haf hf hv_ h1 (c1 hfit).1 (c1 hfit).2 _ rfl hs.h3 hs.h63 hs.m k hk1 hk _ _ rfl (by omega) _ rfl rfl (by rw [← hsf.e]; omega) _ rfl (by omega) fun a ha c hc => ?_
          rw [← hsf.e]
          exact apH_diff hD hv_ hfit hk ha hc

end Go.Proofs.Ytifoncmlelinjaa
