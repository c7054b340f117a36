/- AC: walks on abstract states. -/
import Derived.Test.YtifoncmlelinjaaZ
set_option linter.unusedVariables false
set_option linter.unusedSimpArgs false
namespace Go.Proofs.Ytifoncmlelinjaa
open Go.RowKit Go.Sea
attribute [local go_sem] callK_N gf gk gdrop lkL setL lsF ltAll rdyL bodyF roundQ roundS loopQ loopS jumpOf inLs yV yA bAV zipPut purgeG_nil purgeG_cons List.tail_cons Option.isNone_none Option.isNone_some callGK_f callDK_f callDGK_f retN retHN blockA arun_nil arun_plain arun_guard plainF guardF guardB arunD_nil arunD_plain arunD_guard plainDF guardDF guardDB AS.ent Eff.noApp Eff.tgt ftF AV.refs TV.refs CV.refs LV.refs Op.operands Call.operands List.append_toArray List.push_toArray List.flatMap_cons List.flatMap_nil List.toList_toArray Option.toArray nidF nidA List.reverse_cons List.reverse_nil opF AS.ev constA lk AS.get AV.tv AV.nd AS.eff AS.put argEnv PT.tv PV.av AV.mbOf hset hget TV.cells dstOk thenA gB isB toB TV.bool? TV.int? intF loadF storeF fieldF indexF lenF sliceF optI appF minmaxF fillF partsF lvsF TV.lv LV.tv purgeE purgeC purgeH AV.purge CV.purge AV.has TV.has CV.has LV.has calleeF argsF tvsF toPT toIV toIVs toPTs toPV iA bA List.map_cons List.map_nil List.length_nil List.length_cons List.getElem?_cons_zero List.getElem?_cons_succ List.getElem?_nil Option.getD_some Option.getD_none Option.bind_some Option.bind_none List.take_succ_cons List.take_zero List.drop_succ_cons List.drop_zero List.take_nil List.drop_nil List.cons_append List.nil_append List.append_nil List.getD_cons_zero List.getD_cons_succ Option.map_some Option.map_none Option.isSome_some Option.isSome_none List.size_toArray List.any_cons List.any_nil List.mem_cons if_true if_false ite_true ite_false cond_true cond_false Nat.zero_add Nat.add_zero Nat.sub_zero Nat.le_refl Nat.zero_mul Nat.mul_zero Nat.one_mul Nat.mul_one Int.toNat_zero Int.toNat_natCast Bool.or_false Bool.false_or Bool.or_true Bool.true_or Bool.and_true Bool.true_and Bool.and_false Bool.false_and beq_self_eq_true beq_true beq_false Bool.not_true Bool.not_false and_true true_and and_false false_and and_self imp_self Bool.cond_false_right Bool.cond_true_left implies_true forall_const true_implies false_implies Option.some.injEq Prod.mk.injEq ne_eq not_false_eq_true not_true_eq_false eq_self Nat.lt_irrefl Nat.not_lt_zero op2F ncF slice3F offF slArrF copyF clearF toArrF callDK_t calleeT eqN barOp boF seaMin seaMax seaNat1 seaNat2 Value.bool.injEq Value.int.injEq srcF TV.dp IV.eqv PT.eqv PV.eqv All2 keepE hupd callZ_N AS.frz AS.frzW frzs frzsOk frzOk frzE frzA frzT frzC frzG frzH hdel cmpS eqF eqC gvs eqVs eqV decide_true resF tupA inlQ okL okGL okG nextL nextF barOpN AS.mv mvE mvG_nil mvG_cons mvH mvO AV.mv TV.mv CV.mv LV.mv famL_mv famL_purge famL_snoc famL_zero wkH wkC wkV nilA nilC AV.ok TV.ok CV.ok LV.ok okB forall_eq_or_imp forall_eq List.not_mem_nil List.mem_singleton true_or or_true or_false false_or or_self exists_prop AV.t.injEq TV.one.injEq CV.iv.injEq IV.g.injEq TV.agg.injEq List.cons.injEq repC_0 repC_1 repC_2 repC_3 rowV_len rowV_pur rowV_has rowV_frz frzC isIv_iv civ_iv rowV_all List.map_append retON AV.to TV.to CV.to


set_option maxRecDepth 100000 in
set_option maxHeartbeats 4000000 in
theorem with_big (n : Nat) (m : Nat → Nat) (D : Nat → Nat → Int) (hn : n ≤ 5864062014800) (hm : ∀ i, i < n → m i ≤ 9223372036854775807) (r : Nat) (R : Nat → Int) : CallsP Try.prog 33 [.one (.lst 1 (n) (rowsI (m) (D))), .one (.lst 1 (r) (bytI (R)))] (.t (.one (.lst 1 (n + 1) (rowsI (snocM n m r) (snocD n D R))))) := by
  refine CallsP_of Try.func33 rfl (by rw [Try.ntmps33]; simp) ?_
  simp only [Try.ntmps33, List.map_cons, List.map_nil, PT.tv, argEnv, Nat.zero_add, Nat.reduceAdd]
  repeat' (first
    | ((with_reducible show AW _ _ _ _); first
      | (with_reducible refine AW_seq_k fun K hK => ?_)
      | (with_reducible refine AW_skip ?_)
      | (with_reducible refine AW_exit ?_)
      | (with_reducible refine AW_ret ?_)
      | (with_reducible refine AW_condI ?_)
      | (with_reducible refine AW_block ?_)
      | ((with_reducible show AW _ (Code.region _ _ _) _ _); first
          | (with_reducible refine AW_regionP 0 [0, 1] ?_)
          | (with_reducible refine AW_regionP 1 [0, 1] ?_)))
    | ((first | (with_reducible refine And.intro ?_ ?_) | (with_reducible refine Need.mk ?_)); focus (first | exact True.intro | (with_reducible assumption) | omega | (refine ⟨?_, ?_⟩ <;> omega) | (intro _; first | exact True.intro | (with_reducible assumption) | omega) | (intros; (repeat' (first | exact True.intro | omega | (with_reducible assumption) | (with_reducible refine And.intro ?_ ?_))); done) | (simp (disch := omega) only [Bool.and_eq_true, Bool.or_eq_true, decide_eq_true_eq, bne_iff_ne, ne_eq] at *; first | done | omega | (intros; omega)) | (simp; done) | (simp; omega) | (simp +contextual; done) | (intro h; rw [h]; rfl) | (intros; simp_all; done)))
    | (with_reducible refine retK_n ?_)
    | (with_reducible refine retK_n' ?_)
    | (with_reducible refine retH_n rfl rfl rfl ?_)
    | (with_reducible refine retH_n' rfl rfl rfl ?_)
    | (with_reducible refine retO_n ?_ ?_)
    | (with_reducible refine retO_n' ?_ ?_)
    | ((with_reducible show condN _ _ _ _ _ _); first
      | ((with_reducible refine condN_t ?_ ?_) <;> (intro hc; (try simp only [Bool.and_eq_true, Bool.or_eq_true, Bool.not_eq_true', Bool.and_eq_false_iff, Bool.or_eq_false_iff, decide_eq_true_eq, decide_eq_false_iff_not, bne_iff_ne, beq_iff_eq, reduceCtorEq, bne_eq_false_iff_eq, beq_eq_false_iff_ne, Bool.not_eq_false', Int.not_le, Int.not_lt, Bool.not_not] at hc); (skip); (try (exfalso; first | contradiction | omega)))))
    | ((fail_if_success (with_reducible show AW _ _ _ _)); simp (maxSteps := 2000000) only [go_sem, reduceIte, reduceCtorEq, Nat.reduceAdd, Nat.reduceLT, Nat.reduceLeDiff, Nat.reduceEqDiff, Nat.reduceMul, Nat.reduceSub, Nat.reduceBEq, Try.f33, sl_22, zc_25, bytI, rowsI, lstC_row, maxLen])
    | ((with_reducible refine hK _ ?_); clear hK K))
  all_goals (rw [rowV_app1]; refine ⟨⟨by rw [rowV_len]; exact Nat.le_refl _, rowV_iv _ _⟩, fun i o hi ho => ?_⟩; obtain rfl : o = 0 := (by omega); exact rowV_eqv' (F := rowsI (snocM n m r) (snocD n D R)) (fun j hj => snoc_eqv n m D r R j) i 0 (by omega) ho)

theorem few_w {n : Nat} {m : Nat → Nat} {n' : Nat} {m' : Nat → Nat} {r : Nat} (h : fewB n m (n' + 1) (snocM n' m' r) = true) : n ≤ 17 ∧ n' ≤ 19 ∧ r ≤ 600 ∧ ∀ i, i < n' → m' i ≤ 600 := by
  obtain ⟨h1, h2, h3⟩ := few_rs h
  refine ⟨h1, by omega, ?_, fun i hi => ?_⟩
  · have := h3 n' (by omega)
    unfold snocM at this
    rwa [if_neg (Nat.lt_irrefl _)] at this
  · have := h3 i (by omega)
    unfold snocM at this
    rwa [if_pos hi] at this
theorem encP_b6 (m' : Nat → Nat) : ∀ q, (∀ i, i < q → m' i ≤ 600) → encP m' q ≤ q * 603
  | 0, _ => Nat.le_refl _
  | q + 1, h => by
    have := encP_b6 m' q fun i hi => h i (by omega)
    have := h q (by omega)
    show encP m' q + (m' q + 3) ≤ _
    omega

set_option maxRecDepth 100000 in
set_option maxHeartbeats 4000000 in
theorem law8_b (n : Nat) (m : Nat → Nat) (D : Nat → Nat → Int) (hn : n ≤ 9223372036854775807) (hm : ∀ i, i < n → m i ≤ 9223372036854775807) (hD : BytD D) (n' : Nat) (m' : Nat → Nat) (D' : Nat → Nat → Int) (hb : n' ≤ 5864062014800) (hm' : ∀ i, i < n' → m' i ≤ 9223372036854775807) (hD' : BytD D') (r : Nat) (R : Nat → Int) (hr : r ≤ 9223372036854775807) (hR : Byt R) (hbad : fewB n m (n' + 1) (snocM n' m' r) = false ∨ vB n m D = false) : CallsP Try.prog 8 [.agg [.lst 1 (n) (rowsI (m) (D))], .one (.lst 1 (n') (rowsI (m') (D'))), .one (.lst 1 (r) (bytI (R)))] (.t (.one (.g (.bool (true))))) := by
  have hn' : n' ≤ 9223372036854775807 := by omega
  have hmw : ∀ i, i < n' + 1 → snocM n' m' r i ≤ 9223372036854775807 := fun i hi => by unfold snocM; split; exact hm' i (by assumption); exact hr
  refine CallsP_of Try.func8 rfl (by rw [Try.ntmps8]; simp) ?_
  simp only [Try.ntmps8, List.map_cons, List.map_nil, PT.tv, argEnv, Nat.zero_add, Nat.reduceAdd]
  repeat' (first
    | (with_reducible refine callDGK_f0 ?_)
    | (with_reducible refine callGK_f0 ?_)
    | ((with_reducible show AW _ _ _ _); first
      | (with_reducible refine AW_seq_k fun K hK => ?_)
      | (with_reducible refine AW_skip ?_)
      | (with_reducible refine AW_exit ?_)
      | (with_reducible refine AW_ret ?_)
      | (with_reducible refine AW_condI ?_)
      | (with_reducible refine AW_block ?_)
      | ((with_reducible show AW _ (Code.region _ _ _) _ _); first
          | (with_reducible refine AW_regionP 0 [0, 1, 2] ?_)
          | (with_reducible refine AW_regionP 1 [1, 2, 3] ?_)
          | ((with_reducible refine AW_prune (c := Code.region 2 _ true) [1, 2, 3, 7] ?_); (with_reducible refine AW_regionD ?_ ?_ ?_ ?_); (focus kernel_rfl); (focus kernel_rfl); (focus kernel_rfl))
          | (with_reducible refine AW_regionP 3 [7] ?_)
          | (with_reducible refine AW_regionP 4 [1, 2, 3, 7] ?_)
          | (with_reducible refine AW_regionP 5 [1, 2, 3, 7, 8] ?_)
          | (with_reducible refine AW_regionP 6 [1, 2, 3, 7, 8, 29, 30, 31] ?_)
          | (with_reducible refine AW_regionP 7 [1, 2, 3, 7, 8, 29, 30, 31] ?_)
          | (with_reducible refine AW_regionP 8 [1, 2, 3, 7, 8, 10, 29, 30, 31] ?_)
          | (with_reducible refine AW_regionP 9 [1, 2, 3, 7, 8, 29, 30, 31] ?_)
          | (with_reducible refine AW_regionP 10 [1, 2, 3, 7, 8] ?_)
          | (with_reducible refine AW_regionP 11 [1, 2, 3, 7, 8, 11] ?_)
          | (with_reducible refine AW_regionP 12 [2, 7, 8, 11, 12, 13] ?_)
          | (with_reducible refine AW_regionP 13 [7, 13] ?_)
          | (with_reducible refine AW_regionP 14 [2, 7, 8, 11, 12, 13] ?_)
          | (with_reducible refine AW_regionP 15 [2, 7, 8, 11, 13, 15] ?_)))
    | ((first | (with_reducible refine And.intro ?_ ?_) | (with_reducible refine Need.mk ?_)); focus (first | exact True.intro | (with_reducible assumption) | omega | (refine ⟨?_, ?_⟩ <;> omega) | (intro _; first | exact True.intro | (with_reducible assumption) | omega) | (intros; (repeat' (first | exact True.intro | omega | (with_reducible assumption) | (with_reducible refine And.intro ?_ ?_))); done) | (simp (disch := omega) only [Bool.and_eq_true, Bool.or_eq_true, decide_eq_true_eq, bne_iff_ne, ne_eq] at *; first | done | omega | (intros; omega)) | (simp; done) | (simp; omega) | (simp +contextual; done) | (intro h; rw [h]; rfl) | (intros; simp_all; done)))
    | (with_reducible refine retK_n ?_)
    | (with_reducible refine retK_n' ?_)
    | (with_reducible refine retH_n rfl rfl rfl ?_)
    | (with_reducible refine retH_n' rfl rfl rfl ?_)
    | (with_reducible refine retO_n ?_ ?_)
    | (with_reducible refine retO_n' ?_ ?_)
    | ((with_reducible show condN _ _ _ _ _ _); first
      | ((with_reducible refine condN_t ?_ ?_) <;> (intro hc; (try simp only [Bool.and_eq_true, Bool.or_eq_true, Bool.not_eq_true', Bool.and_eq_false_iff, Bool.or_eq_false_iff, decide_eq_true_eq, decide_eq_false_iff_not, bne_iff_ne, beq_iff_eq, reduceCtorEq, bne_eq_false_iff_eq, beq_eq_false_iff_ne, Bool.not_eq_false', Int.not_le, Int.not_lt, Bool.not_not] at hc); ((try (exfalso; rcases hbad with hbad | hbad; (have h9 := hc.1; rw [hbad] at h9; cases h9); (have h9 := hc.2; rw [hbad] at h9; cases h9)))); (try (exfalso; first | contradiction | omega)))))
    | ((with_reducible refine And.intro ?_ ?_); focus ((with_reducible show chkR _ _ _ = true); kernel_rfl))
    | ((with_reducible show callN _ _ _ _ _ _ _ _ _ _); first
      | (refine callN_q (k := 11) fnok_11 (head_p) ?_ ?_)
      | (refine callN_q (k := 14) fnok_14 (rvalid_p n m D hn hm hD) ?_ ?_))
    | ((with_reducible show callDN _ _ _ _ _ _ _ _ _ _ _ _ _); first
      | (refine callDN_q (k := 33) fnok_33 (with_big n' m' D' hb hm' r R) ?_ ?_)
      | (refine callDN_q (k := 12) fnok_12 (few_p n m D (n' + 1) (snocM n' m' r) (snocD n' D' R) hn (by omega) hm hmw) ?_ ?_)
      | (refine callDN_q (k := 14) fnok_14 (rvalid_p n m D hn hm hD) ?_ ?_))
    | ((with_reducible show callDGN _ _ _ _ _ _ _ _ _ _ _ _ _); first
      | (refine callDGN_q (k := 13) fnok_13 (fun hg => valid_p n m D hn hm hD) ?_ ?_)
      | (refine callDGN_q (k := 14) fnok_14 (fun hg => rvalid_p n m D hn hm hD) ?_ ?_))
    | ((with_reducible show callGN _ _ _ _ _ _ _ _ _ _); first
      | (refine callGN_q (k := 14) fnok_14 (fun hg => rvalid_p n m D hn hm hD) ?_ ?_))
    | ((fail_if_success (with_reducible show AW _ _ _ _)); simp (maxSteps := 2000000) only [go_sem, reduceIte, reduceCtorEq, Nat.reduceAdd, Nat.reduceLT, Nat.reduceLeDiff, Nat.reduceEqDiff, Nat.reduceMul, Nat.reduceSub, Nat.reduceBEq, Try.f8, fnok_11, ty_24, fnok_33, fnok_12, fnok_13, le_22, sl_22, ar_22, ty_25, le_25, of_24_0, ty_22, fnok_29, zc_24, fnok_18, bo_4, bytI, rowsI])
    | ((fail_if_success (with_reducible show AW _ _ _ _)); simp (disch := omega) only [seaWrap, seaDiv, seaMod])
    | ((with_reducible refine hK _ ?_); clear hK K))

set_option maxRecDepth 100000 in
set_option maxHeartbeats 4000000 in
theorem law8_full (n : Nat) (m : Nat → Nat) (D : Nat → Nat → Int) (hn : n ≤ 9223372036854775807) (hm : ∀ i, i < n → m i ≤ 9223372036854775807) (hD : BytD D) (n' : Nat) (m' : Nat → Nat) (D' : Nat → Nat → Int) (hb : n' ≤ 5864062014800) (hm' : ∀ i, i < n' → m' i ≤ 9223372036854775807) (hD' : BytD D') (r : Nat) (R : Nat → Int) (hr : r ≤ 9223372036854775807) (hR : Byt R) (hf : fewB n m (n' + 1) (snocM n' m' r) = true) (hv_ : vB n m D = true) (hq19 : n' ≤ 19) (hn17 : n ≤ 17) (h3n : 1 ≤ n) (hr6 : r ≤ 600) (hl : ∀ i, i < n' → m' i ≤ 600) (hbd : encP m' n' ≤ 20000) (h1 : hlf n * 64 < encP m' n') (h2 : cmpE n m D n' m' 1048576 = 17) : CallsP Try.prog 8 [.agg [.lst 1 (n) (rowsI (m) (D))], .one (.lst 1 (n') (rowsI (m') (D'))), .one (.lst 1 (r) (bytI (R)))] (.t (.one (.g (.bool (true))))) := by
  have hn' : n' ≤ 9223372036854775807 := by omega
  have hmw : ∀ i, i < n' + 1 → snocM n' m' r i ≤ 9223372036854775807 := fun i hi => by unfold snocM; split; exact hm' i (by assumption); exact hr
  have hl2 := hlf_int (show 1 ≤ n by omega)
  have hh : hlf n ≤ 31 := by unfold hlf; omega
  refine CallsP_of Try.func8 rfl (by rw [Try.ntmps8]; simp) ?_
  simp only [Try.ntmps8, List.map_cons, List.map_nil, PT.tv, argEnv, Nat.zero_add, Nat.reduceAdd]
  repeat' (first
    | (with_reducible refine callDGK_f0 ?_)
    | (with_reducible refine callGK_f0 ?_)
    | ((with_reducible show AW _ _ _ _); first
      | (with_reducible refine AW_seq_k fun K hK => ?_)
      | (with_reducible refine AW_skip ?_)
      | (with_reducible refine AW_exit ?_)
      | (with_reducible refine AW_ret ?_)
      | (with_reducible refine AW_condI ?_)
      | (with_reducible refine AW_block ?_)
      | ((with_reducible show AW _ (Code.region _ _ _) _ _); first
          | (with_reducible refine AW_regionP 0 [0, 1, 2] ?_)
          | (with_reducible refine AW_regionP 1 [1, 2, 3] ?_)
          | ((with_reducible refine AW_prune (c := Code.region 2 _ true) [1, 2, 3, 7] ?_); (with_reducible refine AW_regionD ?_ ?_ ?_ ?_); (focus kernel_rfl); (focus kernel_rfl); (focus kernel_rfl))
          | (with_reducible refine AW_regionP 3 [7] ?_)
          | (with_reducible refine AW_regionP 4 [1, 2, 3, 7] ?_)
          | (with_reducible refine AW_regionP 5 [1, 2, 3, 7, 8] ?_)
          | (with_reducible refine AW_regionP 6 [1, 2, 3, 7, 8, 29, 30, 31] ?_)
          | (with_reducible refine AW_regionP 7 [1, 2, 3, 7, 8, 29, 30, 31] ?_)
          | (with_reducible refine AW_regionP 8 [1, 2, 3, 7, 8, 10, 29, 30, 31] ?_)
          | (with_reducible refine AW_regionP 9 [1, 2, 3, 7, 8, 29, 30, 31] ?_)
          | (with_reducible refine AW_regionP 10 [1, 2, 3, 7, 8] ?_)
          | (with_reducible refine AW_regionP 11 [1, 2, 3, 7, 8, 11] ?_)
          | (with_reducible refine AW_regionP 12 [2, 7, 8, 11, 12, 13] ?_)
          | (with_reducible refine AW_regionP 13 [7, 13] ?_)
          | (with_reducible refine AW_regionP 14 [2, 7, 8, 11, 12, 13] ?_)
          | (with_reducible refine AW_regionP 15 [2, 7, 8, 11, 13, 15] ?_)
          | ((with_reducible refine AW_loopQ (c := (Code.seq (Code.region 6 _ _) _)) (ι := Nat) [1, 2, 3, 7, 29, 30] (fun i => [(8, iA .i64 ((encP m' i : Nat) : Int)), (31, iA .i64 (i : Int))]) (fun i => []) (fun i => i ≤ n') (fun i => n' - i) 0 ?lg6 ?l16 ?l26 ?li6 ?lr6); (case' lg6 => rintro i _); (case' li6 => try (first | trivial | omega | (simp; done) | (simp; omega))); (case' lr6 => rintro i hi KR hR6; have hb3 := encP_mono m' i n' hi; have hb4 : i < n' → encP m' (i + 1) ≤ encP m' n' := (fun h => encP_mono m' (i + 1) n' (by omega)); have hb5 : encP m' (i + 1) = encP m' i + (m' i + 3) := rfl; simp only [keepE, hupd, hset, lk, if_true, if_false, Nat.reduceEqDiff, reduceIte, List.cons_append, List.nil_append, bytI, rowsI, hf, hv_, h2, hl2, decide_true, decide_false])))
      | ((with_reducible show AW _ (Code.loop _) _ _); first
          | ((with_reducible refine AW_loopQ (c := (Code.seq (Code.region 6 _ _) _)) (ι := Nat) [1, 2, 3, 7, 29, 30] (fun i => [(8, iA .i64 ((encP m' i : Nat) : Int)), (31, iA .i64 (i : Int))]) (fun i => []) (fun i => i ≤ n') (fun i => n' - i) 0 ?lg6 ?l16 ?l26 ?li6 ?lr6); (case' lg6 => rintro i _); (case' li6 => try (first | trivial | omega | (simp; done) | (simp; omega))); (case' lr6 => rintro i hi KR hR6; have hb3 := encP_mono m' i n' hi; have hb4 : i < n' → encP m' (i + 1) ≤ encP m' n' := (fun h => encP_mono m' (i + 1) n' (by omega)); have hb5 : encP m' (i + 1) = encP m' i + (m' i + 3) := rfl; simp only [keepE, hupd, hset, lk, if_true, if_false, Nat.reduceEqDiff, reduceIte, List.cons_append, List.nil_append, bytI, rowsI, hf, hv_, h2, hl2, decide_true, decide_false]))))
    | ((first | (with_reducible refine And.intro ?_ ?_) | (with_reducible refine Need.mk ?_)); focus (first | exact True.intro | (with_reducible assumption) | omega | (refine ⟨?_, ?_⟩ <;> omega) | (intro _; first | exact True.intro | (with_reducible assumption) | omega) | (intros; (repeat' (first | exact True.intro | omega | (with_reducible assumption) | (with_reducible refine And.intro ?_ ?_))); done) | (simp (disch := omega) only [Bool.and_eq_true, Bool.or_eq_true, decide_eq_true_eq, bne_iff_ne, ne_eq] at *; first | done | omega | (intros; omega)) | (simp; done) | (simp; omega) | (simp +contextual; done) | (intro h; rw [h]; rfl) | (intros; simp_all; done)))
    | (with_reducible refine retK_n ?_)
    | (with_reducible refine retK_n' ?_)
    | (with_reducible refine retH_n rfl rfl rfl ?_)
    | (with_reducible refine retH_n' rfl rfl rfl ?_)
    | (with_reducible refine retO_n ?_ ?_)
    | (with_reducible refine retO_n' ?_ ?_)
    | ((with_reducible show condN _ _ _ _ _ _); first
      | ((with_reducible refine condN_t ?_ ?_) <;> (intro hc; (try simp only [Bool.and_eq_true, Bool.or_eq_true, Bool.not_eq_true', Bool.and_eq_false_iff, Bool.or_eq_false_iff, decide_eq_true_eq, decide_eq_false_iff_not, bne_iff_ne, beq_iff_eq, reduceCtorEq, bne_eq_false_iff_eq, beq_eq_false_iff_ne, Bool.not_eq_false', Int.not_le, Int.not_lt, Bool.not_not] at hc); ((try (have e0 : n' = i := (by omega); subst e0))); (try (exfalso; first | contradiction | omega)))))
    | ((with_reducible refine And.intro ?_ ?_); focus ((with_reducible show chkR _ _ _ = true); kernel_rfl))
    | ((with_reducible show callN _ _ _ _ _ _ _ _ _ _); first
      | (refine callN_q (k := 11) fnok_11 (head_p) ?_ ?_)
      | (refine callN_q (k := 14) fnok_14 (rvalid_p n m D hn hm hD) ?_ ?_)
      | (refine callN_q (k := 29) fnok_29 (compact_p n m D hn hm hD n' m' D' (by omega) hm') ?_ ?_))
    | ((with_reducible show callDN _ _ _ _ _ _ _ _ _ _ _ _ _); first
      | (refine callDN_q (k := 33) fnok_33 (with_big n' m' D' hb hm' r R) ?_ ?_)
      | (refine callDN_q (k := 12) fnok_12 (few_p n m D (n' + 1) (snocM n' m' r) (snocD n' D' R) hn (by omega) hm hmw) ?_ ?_)
      | (refine callDN_q (k := 14) fnok_14 (rvalid_p n m D hn hm hD) ?_ ?_))
    | ((with_reducible show callDGN _ _ _ _ _ _ _ _ _ _ _ _ _); first
      | (refine callDGN_q (k := 13) fnok_13 (fun hg => valid_p n m D hn hm hD) ?_ ?_)
      | (refine callDGN_q (k := 14) fnok_14 (fun hg => rvalid_p n m D hn hm hD) ?_ ?_))
    | ((with_reducible show callGN _ _ _ _ _ _ _ _ _ _); first
      | (refine callGN_q (k := 14) fnok_14 (fun hg => rvalid_p n m D hn hm hD) ?_ ?_))
    | ((with_reducible refine hR6 _ (i + 1) ?_); (try clear hR6 KR))
    | ((with_reducible refine Told.mk ?_); simp only [go_sem, reduceIte, reduceCtorEq, Nat.reduceAdd, Nat.reduceLT, Nat.reduceLeDiff, Nat.reduceEqDiff, Nat.reduceMul, Nat.reduceSub, Nat.reduceBEq, bytI, rowsI, hf, hv_, h2, hl2, decide_true, decide_false] <;> (first | exact True.intro | (((try simp (disch := omega) only [seaWrap, Int.natCast_add, Int.cast_ofNat_Int, and_true, true_and, and_self]); (repeat' (first | exact True.intro | omega | rfl | (with_reducible assumption) | (with_reducible refine And.intro ?_ ?_) | (exact all_succ (by assumption) (by assumption)) )); done)) | (refine Stuck.out ?_)))
    | ((fail_if_success (with_reducible show AW _ _ _ _)); simp (maxSteps := 2000000) only [go_sem, reduceIte, reduceCtorEq, Nat.reduceAdd, Nat.reduceLT, Nat.reduceLeDiff, Nat.reduceEqDiff, Nat.reduceMul, Nat.reduceSub, Nat.reduceBEq, Try.f8, fnok_11, ty_24, fnok_33, fnok_12, fnok_13, le_22, sl_22, ar_22, ty_25, le_25, of_24_0, ty_22, fnok_29, zc_24, fnok_18, bo_4, bytI, rowsI, hf, hv_, h2, hl2, decide_true, decide_false])
    | ((fail_if_success (with_reducible show AW _ _ _ _)); simp (disch := omega) only [seaWrap, seaDiv, seaMod])
    | ((with_reducible refine hK _ ?_); clear hK K)
    | (with_reducible apply_assumption -exfalso only [*]))

set_option maxRecDepth 100000 in
set_option maxHeartbeats 4000000 in
theorem law8_ok0 (n : Nat) (m : Nat → Nat) (D : Nat → Nat → Int) (hn : n ≤ 9223372036854775807) (hm : ∀ i, i < n → m i ≤ 9223372036854775807) (hD : BytD D) (n' : Nat) (m' : Nat → Nat) (D' : Nat → Nat → Int) (hb : n' ≤ 5864062014800) (hm' : ∀ i, i < n' → m' i ≤ 9223372036854775807) (hD' : BytD D') (r : Nat) (R : Nat → Int) (hr : r ≤ 9223372036854775807) (hR : Byt R) (hf : fewB n m (n' + 1) (snocM n' m' r) = true) (hv_ : vB n m D = true) (hq19 : n' ≤ 19) (hn17 : n ≤ 17) (h3n : 1 ≤ n) (hr6 : r ≤ 600) (hl : ∀ i, i < n' → m' i ≤ 600) (hbd : encP m' n' ≤ 20000) (h1 : encP m' n' ≤ hlf n * 64) (h2 : cmpE n m D n' m' 1048576 = 0) (h3 : cmpN n m D n' m' 1048576 = n) (E : Nat → Nat → Int) (hE : BytD E) (h4 : cmpD n D n' m' D' 1048576 = E) (h6 : cutE n c64 E r 1048576 = 0) (h7 : (((encP m' n' : Nat) : Int) + 3 + (r : Int) ≤ (hlf n : Int) * 64) = True) : CallsP Try.prog 8 [.agg [.lst 1 (n) (rowsI (m) (D))], .one (.lst 1 (n') (rowsI (m') (D'))), .one (.lst 1 (r) (bytI (R)))] (.t (.one (.g (.bool (true))))) := by
  have hn' : n' ≤ 9223372036854775807 := by omega
  have hmw : ∀ i, i < n' + 1 → snocM n' m' r i ≤ 9223372036854775807 := fun i hi => by unfold snocM; split; exact hm' i (by assumption); exact hr
  have hl2 := hlf_int (show 1 ≤ n by omega)
  have hh : hlf n ≤ 31 := by unfold hlf; omega
  refine CallsP_of Try.func8 rfl (by rw [Try.ntmps8]; simp) ?_
  simp only [Try.ntmps8, List.map_cons, List.map_nil, PT.tv, argEnv, Nat.zero_add, Nat.reduceAdd]
  repeat' (first
    | (with_reducible refine callDGK_f0 ?_)
    | (with_reducible refine callGK_f0 ?_)
    | ((with_reducible show AW _ _ _ _); first
      | (with_reducible refine AW_seq_k fun K hK => ?_)
      | (with_reducible refine AW_skip ?_)
      | (with_reducible refine AW_exit ?_)
      | (with_reducible refine AW_ret ?_)
      | (with_reducible refine AW_condI ?_)
      | (with_reducible refine AW_block ?_)
      | ((with_reducible show AW _ (Code.region _ _ _) _ _); first
          | (with_reducible refine AW_regionP 0 [0, 1, 2] ?_)
          | (with_reducible refine AW_regionP 1 [1, 2, 3] ?_)
          | ((with_reducible refine AW_prune (c := Code.region 2 _ true) [1, 2, 3, 7] ?_); (with_reducible refine AW_regionD ?_ ?_ ?_ ?_); (focus kernel_rfl); (focus kernel_rfl); (focus kernel_rfl))
          | (with_reducible refine AW_regionP 3 [7] ?_)
          | (with_reducible refine AW_regionP 4 [1, 2, 3, 7] ?_)
          | (with_reducible refine AW_regionP 5 [1, 2, 3, 7, 8] ?_)
          | (with_reducible refine AW_regionP 6 [1, 2, 3, 7, 8, 29, 30, 31] ?_)
          | (with_reducible refine AW_regionP 7 [1, 2, 3, 7, 8, 29, 30, 31] ?_)
          | (with_reducible refine AW_regionP 8 [1, 2, 3, 7, 8, 10, 29, 30, 31] ?_)
          | (with_reducible refine AW_regionP 9 [1, 2, 3, 7, 8, 29, 30, 31] ?_)
          | (with_reducible refine AW_regionP 10 [1, 2, 3, 7, 8] ?_)
          | (with_reducible refine AW_regionP 11 [1, 2, 3, 7, 8, 11] ?_)
          | (with_reducible refine AW_regionP 12 [2, 7, 8, 11, 12, 13] ?_)
          | (with_reducible refine AW_regionP 13 [7, 13] ?_)
          | (with_reducible refine AW_regionP 14 [2, 7, 8, 11, 12, 13] ?_)
          | (with_reducible refine AW_regionP 15 [2, 7, 8, 11, 13, 15] ?_)
          | ((with_reducible refine AW_loopQ (c := (Code.seq (Code.region 6 _ _) _)) (ι := Nat) [1, 2, 3, 7, 29, 30] (fun i => [(8, iA .i64 ((encP m' i : Nat) : Int)), (31, iA .i64 (i : Int))]) (fun i => []) (fun i => i ≤ n') (fun i => n' - i) 0 ?lg6 ?l16 ?l26 ?li6 ?lr6); (case' lg6 => rintro i _); (case' li6 => try (first | trivial | omega | (simp; done) | (simp; omega))); (case' lr6 => rintro i hi KR hR6; have hb3 := encP_mono m' i n' hi; have hb4 : i < n' → encP m' (i + 1) ≤ encP m' n' := (fun h => encP_mono m' (i + 1) n' (by omega)); have hb5 : encP m' (i + 1) = encP m' i + (m' i + 3) := rfl; simp only [keepE, hupd, hset, lk, if_true, if_false, Nat.reduceEqDiff, reduceIte, List.cons_append, List.nil_append, bytI, rowsI, hf, hv_, h2, h3, h4, h6, h7, hl2, decide_true, decide_false])))
      | ((with_reducible show AW _ (Code.loop _) _ _); first
          | ((with_reducible refine AW_loopQ (c := (Code.seq (Code.region 6 _ _) _)) (ι := Nat) [1, 2, 3, 7, 29, 30] (fun i => [(8, iA .i64 ((encP m' i : Nat) : Int)), (31, iA .i64 (i : Int))]) (fun i => []) (fun i => i ≤ n') (fun i => n' - i) 0 ?lg6 ?l16 ?l26 ?li6 ?lr6); (case' lg6 => rintro i _); (case' li6 => try (first | trivial | omega | (simp; done) | (simp; omega))); (case' lr6 => rintro i hi KR hR6; have hb3 := encP_mono m' i n' hi; have hb4 : i < n' → encP m' (i + 1) ≤ encP m' n' := (fun h => encP_mono m' (i + 1) n' (by omega)); have hb5 : encP m' (i + 1) = encP m' i + (m' i + 3) := rfl; simp only [keepE, hupd, hset, lk, if_true, if_false, Nat.reduceEqDiff, reduceIte, List.cons_append, List.nil_append, bytI, rowsI, hf, hv_, h2, h3, h4, h6, h7, hl2, decide_true, decide_false]))))
    | ((first | (with_reducible refine And.intro ?_ ?_) | (with_reducible refine Need.mk ?_)); focus (first | exact True.intro | (with_reducible assumption) | omega | (refine ⟨?_, ?_⟩ <;> omega) | (intro _; first | exact True.intro | (with_reducible assumption) | omega) | (intros; (repeat' (first | exact True.intro | omega | (with_reducible assumption) | (with_reducible refine And.intro ?_ ?_))); done) | (simp (disch := omega) only [Bool.and_eq_true, Bool.or_eq_true, decide_eq_true_eq, bne_iff_ne, ne_eq] at *; first | done | omega | (intros; omega)) | (simp; done) | (simp; omega) | (simp +contextual; done) | (intro h; rw [h]; rfl) | (intros; simp_all; done)))
    | (with_reducible refine retK_n ?_)
    | (with_reducible refine retK_n' ?_)
    | (with_reducible refine retH_n rfl rfl rfl ?_)
    | (with_reducible refine retH_n' rfl rfl rfl ?_)
    | (with_reducible refine retO_n ?_ ?_)
    | (with_reducible refine retO_n' ?_ ?_)
    | ((with_reducible show condN _ _ _ _ _ _); first
      | ((with_reducible refine condN_t ?_ ?_) <;> (intro hc; (try simp only [Bool.and_eq_true, Bool.or_eq_true, Bool.not_eq_true', Bool.and_eq_false_iff, Bool.or_eq_false_iff, decide_eq_true_eq, decide_eq_false_iff_not, bne_iff_ne, beq_iff_eq, reduceCtorEq, bne_eq_false_iff_eq, beq_eq_false_iff_ne, Bool.not_eq_false', Int.not_le, Int.not_lt, Bool.not_not] at hc); ((try (have e0 : n' = i := (by omega); subst e0))); (try (exfalso; first | contradiction | omega)))))
    | ((with_reducible refine And.intro ?_ ?_); focus ((with_reducible show chkR _ _ _ = true); kernel_rfl))
    | ((with_reducible show callN _ _ _ _ _ _ _ _ _ _); first
      | (refine callN_q (k := 11) fnok_11 (head_p) ?_ ?_)
      | (refine callN_q (k := 14) fnok_14 (rvalid_p n m D hn hm hD) ?_ ?_)
      | (refine callN_q (k := 29) fnok_29 (compact_p n m D hn hm hD n' m' D' (by omega) hm') ?_ ?_)
      | (refine callN_q (k := 18) fnok_18 (append_p n c64 E hn (c64_le n) hE r R hr) ?_ ?_))
    | ((with_reducible show callDN _ _ _ _ _ _ _ _ _ _ _ _ _); first
      | (refine callDN_q (k := 33) fnok_33 (with_big n' m' D' hb hm' r R) ?_ ?_)
      | (refine callDN_q (k := 12) fnok_12 (few_p n m D (n' + 1) (snocM n' m' r) (snocD n' D' R) hn (by omega) hm hmw) ?_ ?_)
      | (refine callDN_q (k := 14) fnok_14 (rvalid_p n m D hn hm hD) ?_ ?_))
    | ((with_reducible show callDGN _ _ _ _ _ _ _ _ _ _ _ _ _); first
      | (refine callDGN_q (k := 13) fnok_13 (fun hg => valid_p n m D hn hm hD) ?_ ?_)
      | (refine callDGN_q (k := 14) fnok_14 (fun hg => rvalid_p n m D hn hm hD) ?_ ?_))
    | ((with_reducible show callGN _ _ _ _ _ _ _ _ _ _); first
      | (refine callGN_q (k := 14) fnok_14 (fun hg => rvalid_p n m D hn hm hD) ?_ ?_))
    | ((with_reducible refine hR6 _ (i + 1) ?_); (try clear hR6 KR))
    | ((with_reducible refine Told.mk ?_); simp only [go_sem, reduceIte, reduceCtorEq, Nat.reduceAdd, Nat.reduceLT, Nat.reduceLeDiff, Nat.reduceEqDiff, Nat.reduceMul, Nat.reduceSub, Nat.reduceBEq, bytI, rowsI, hf, hv_, h2, h3, h4, h6, h7, hl2, decide_true, decide_false] <;> (first | exact True.intro | (((try simp (disch := omega) only [seaWrap, Int.natCast_add, Int.cast_ofNat_Int, and_true, true_and, and_self]); (repeat' (first | exact True.intro | omega | rfl | (with_reducible assumption) | (with_reducible refine And.intro ?_ ?_) | (exact all_succ (by assumption) (by assumption)) )); done)) | (refine Stuck.out ?_)))
    | ((fail_if_success (with_reducible show AW _ _ _ _)); simp (maxSteps := 2000000) only [go_sem, reduceIte, reduceCtorEq, Nat.reduceAdd, Nat.reduceLT, Nat.reduceLeDiff, Nat.reduceEqDiff, Nat.reduceMul, Nat.reduceSub, Nat.reduceBEq, Try.f8, fnok_11, ty_24, fnok_33, fnok_12, fnok_13, le_22, sl_22, ar_22, ty_25, le_25, of_24_0, ty_22, fnok_29, zc_24, fnok_18, bo_4, bytI, rowsI, hf, hv_, h2, h3, h4, h6, h7, hl2, decide_true, decide_false])
    | ((fail_if_success (with_reducible show AW _ _ _ _)); simp (disch := omega) only [seaWrap, seaDiv, seaMod])
    | ((with_reducible refine hK _ ?_); clear hK K)
    | (with_reducible apply_assumption -exfalso only [*]))

set_option maxRecDepth 100000 in
set_option maxHeartbeats 4000000 in
theorem law8_ok1 (n : Nat) (m : Nat → Nat) (D : Nat → Nat → Int) (hn : n ≤ 9223372036854775807) (hm : ∀ i, i < n → m i ≤ 9223372036854775807) (hD : BytD D) (n' : Nat) (m' : Nat → Nat) (D' : Nat → Nat → Int) (hb : n' ≤ 5864062014800) (hm' : ∀ i, i < n' → m' i ≤ 9223372036854775807) (hD' : BytD D') (r : Nat) (R : Nat → Int) (hr : r ≤ 9223372036854775807) (hR : Byt R) (hf : fewB n m (n' + 1) (snocM n' m' r) = true) (hv_ : vB n m D = true) (hq19 : n' ≤ 19) (hn17 : n ≤ 17) (h3n : 1 ≤ n) (hr6 : r ≤ 600) (hl : ∀ i, i < n' → m' i ≤ 600) (hbd : encP m' n' ≤ 20000) (h1 : encP m' n' ≤ hlf n * 64) (h2 : cmpE n m D n' m' 1048576 = 0) (h3 : cmpN n m D n' m' 1048576 = n) (E : Nat → Nat → Int) (hE : BytD E) (h4 : cmpD n D n' m' D' 1048576 = E) (h6 : cutE n c64 E r 1048576 = 17) (h7 : (((encP m' n' : Nat) : Int) + 3 + (r : Int) ≤ (hlf n : Int) * 64) = False) : CallsP Try.prog 8 [.agg [.lst 1 (n) (rowsI (m) (D))], .one (.lst 1 (n') (rowsI (m') (D'))), .one (.lst 1 (r) (bytI (R)))] (.t (.one (.g (.bool (true))))) := by
  have hn' : n' ≤ 9223372036854775807 := by omega
  have hmw : ∀ i, i < n' + 1 → snocM n' m' r i ≤ 9223372036854775807 := fun i hi => by unfold snocM; split; exact hm' i (by assumption); exact hr
  have hl2 := hlf_int (show 1 ≤ n by omega)
  have hh : hlf n ≤ 31 := by unfold hlf; omega
  refine CallsP_of Try.func8 rfl (by rw [Try.ntmps8]; simp) ?_
  simp only [Try.ntmps8, List.map_cons, List.map_nil, PT.tv, argEnv, Nat.zero_add, Nat.reduceAdd]
  repeat' (first
    | (with_reducible refine callDGK_f0 ?_)
    | (with_reducible refine callGK_f0 ?_)
    | ((with_reducible show AW _ _ _ _); first
      | (with_reducible refine AW_seq_k fun K hK => ?_)
      | (with_reducible refine AW_skip ?_)
      | (with_reducible refine AW_exit ?_)
      | (with_reducible refine AW_ret ?_)
      | (with_reducible refine AW_condI ?_)
      | (with_reducible refine AW_block ?_)
      | ((with_reducible show AW _ (Code.region _ _ _) _ _); first
          | (with_reducible refine AW_regionP 0 [0, 1, 2] ?_)
          | (with_reducible refine AW_regionP 1 [1, 2, 3] ?_)
          | ((with_reducible refine AW_prune (c := Code.region 2 _ true) [1, 2, 3, 7] ?_); (with_reducible refine AW_regionD ?_ ?_ ?_ ?_); (focus kernel_rfl); (focus kernel_rfl); (focus kernel_rfl))
          | (with_reducible refine AW_regionP 3 [7] ?_)
          | (with_reducible refine AW_regionP 4 [1, 2, 3, 7] ?_)
          | (with_reducible refine AW_regionP 5 [1, 2, 3, 7, 8] ?_)
          | (with_reducible refine AW_regionP 6 [1, 2, 3, 7, 8, 29, 30, 31] ?_)
          | (with_reducible refine AW_regionP 7 [1, 2, 3, 7, 8, 29, 30, 31] ?_)
          | (with_reducible refine AW_regionP 8 [1, 2, 3, 7, 8, 10, 29, 30, 31] ?_)
          | (with_reducible refine AW_regionP 9 [1, 2, 3, 7, 8, 29, 30, 31] ?_)
          | (with_reducible refine AW_regionP 10 [1, 2, 3, 7, 8] ?_)
          | (with_reducible refine AW_regionP 11 [1, 2, 3, 7, 8, 11] ?_)
          | (with_reducible refine AW_regionP 12 [2, 7, 8, 11, 12, 13] ?_)
          | (with_reducible refine AW_regionP 13 [7, 13] ?_)
          | (with_reducible refine AW_regionP 14 [2, 7, 8, 11, 12, 13] ?_)
          | (with_reducible refine AW_regionP 15 [2, 7, 8, 11, 13, 15] ?_)
          | ((with_reducible refine AW_loopQ (c := (Code.seq (Code.region 6 _ _) _)) (ι := Nat) [1, 2, 3, 7, 29, 30] (fun i => [(8, iA .i64 ((encP m' i : Nat) : Int)), (31, iA .i64 (i : Int))]) (fun i => []) (fun i => i ≤ n') (fun i => n' - i) 0 ?lg6 ?l16 ?l26 ?li6 ?lr6); (case' lg6 => rintro i _); (case' li6 => try (first | trivial | omega | (simp; done) | (simp; omega))); (case' lr6 => rintro i hi KR hR6; have hb3 := encP_mono m' i n' hi; have hb4 : i < n' → encP m' (i + 1) ≤ encP m' n' := (fun h => encP_mono m' (i + 1) n' (by omega)); have hb5 : encP m' (i + 1) = encP m' i + (m' i + 3) := rfl; simp only [keepE, hupd, hset, lk, if_true, if_false, Nat.reduceEqDiff, reduceIte, List.cons_append, List.nil_append, bytI, rowsI, hf, hv_, h2, h3, h4, h6, h7, hl2, decide_true, decide_false])))
      | ((with_reducible show AW _ (Code.loop _) _ _); first
          | ((with_reducible refine AW_loopQ (c := (Code.seq (Code.region 6 _ _) _)) (ι := Nat) [1, 2, 3, 7, 29, 30] (fun i => [(8, iA .i64 ((encP m' i : Nat) : Int)), (31, iA .i64 (i : Int))]) (fun i => []) (fun i => i ≤ n') (fun i => n' - i) 0 ?lg6 ?l16 ?l26 ?li6 ?lr6); (case' lg6 => rintro i _); (case' li6 => try (first | trivial | omega | (simp; done) | (simp; omega))); (case' lr6 => rintro i hi KR hR6; have hb3 := encP_mono m' i n' hi; have hb4 : i < n' → encP m' (i + 1) ≤ encP m' n' := (fun h => encP_mono m' (i + 1) n' (by omega)); have hb5 : encP m' (i + 1) = encP m' i + (m' i + 3) := rfl; simp only [keepE, hupd, hset, lk, if_true, if_false, Nat.reduceEqDiff, reduceIte, List.cons_append, List.nil_append, bytI, rowsI, hf, hv_, h2, h3, h4, h6, h7, hl2, decide_true, decide_false]))))
    | ((first | (with_reducible refine And.intro ?_ ?_) | (with_reducible refine Need.mk ?_)); focus (first | exact True.intro | (with_reducible assumption) | omega | (refine ⟨?_, ?_⟩ <;> omega) | (intro _; first | exact True.intro | (with_reducible assumption) | omega) | (intros; (repeat' (first | exact True.intro | omega | (with_reducible assumption) | (with_reducible refine And.intro ?_ ?_))); done) | (simp (disch := omega) only [Bool.and_eq_true, Bool.or_eq_true, decide_eq_true_eq, bne_iff_ne, ne_eq] at *; first | done | omega | (intros; omega)) | (simp; done) | (simp; omega) | (simp +contextual; done) | (intro h; rw [h]; rfl) | (intros; simp_all; done)))
    | (with_reducible refine retK_n ?_)
    | (with_reducible refine retK_n' ?_)
    | (with_reducible refine retH_n rfl rfl rfl ?_)
    | (with_reducible refine retH_n' rfl rfl rfl ?_)
    | (with_reducible refine retO_n ?_ ?_)
    | (with_reducible refine retO_n' ?_ ?_)
    | ((with_reducible show condN _ _ _ _ _ _); first
      | ((with_reducible refine condN_t ?_ ?_) <;> (intro hc; (try simp only [Bool.and_eq_true, Bool.or_eq_true, Bool.not_eq_true', Bool.and_eq_false_iff, Bool.or_eq_false_iff, decide_eq_true_eq, decide_eq_false_iff_not, bne_iff_ne, beq_iff_eq, reduceCtorEq, bne_eq_false_iff_eq, beq_eq_false_iff_ne, Bool.not_eq_false', Int.not_le, Int.not_lt, Bool.not_not] at hc); ((try (have e0 : n' = i := (by omega); subst e0))); (try (exfalso; first | contradiction | omega)))))
    | ((with_reducible refine And.intro ?_ ?_); focus ((with_reducible show chkR _ _ _ = true); kernel_rfl))
    | ((with_reducible show callN _ _ _ _ _ _ _ _ _ _); first
      | (refine callN_q (k := 11) fnok_11 (head_p) ?_ ?_)
      | (refine callN_q (k := 14) fnok_14 (rvalid_p n m D hn hm hD) ?_ ?_)
      | (refine callN_q (k := 29) fnok_29 (compact_p n m D hn hm hD n' m' D' (by omega) hm') ?_ ?_)
      | (refine callN_q (k := 18) fnok_18 (append_p n c64 E hn (c64_le n) hE r R hr) ?_ ?_))
    | ((with_reducible show callDN _ _ _ _ _ _ _ _ _ _ _ _ _); first
      | (refine callDN_q (k := 33) fnok_33 (with_big n' m' D' hb hm' r R) ?_ ?_)
      | (refine callDN_q (k := 12) fnok_12 (few_p n m D (n' + 1) (snocM n' m' r) (snocD n' D' R) hn (by omega) hm hmw) ?_ ?_)
      | (refine callDN_q (k := 14) fnok_14 (rvalid_p n m D hn hm hD) ?_ ?_))
    | ((with_reducible show callDGN _ _ _ _ _ _ _ _ _ _ _ _ _); first
      | (refine callDGN_q (k := 13) fnok_13 (fun hg => valid_p n m D hn hm hD) ?_ ?_)
      | (refine callDGN_q (k := 14) fnok_14 (fun hg => rvalid_p n m D hn hm hD) ?_ ?_))
    | ((with_reducible show callGN _ _ _ _ _ _ _ _ _ _); first
      | (refine callGN_q (k := 14) fnok_14 (fun hg => rvalid_p n m D hn hm hD) ?_ ?_))
    | ((with_reducible refine hR6 _ (i + 1) ?_); (try clear hR6 KR))
    | ((with_reducible refine Told.mk ?_); simp only [go_sem, reduceIte, reduceCtorEq, Nat.reduceAdd, Nat.reduceLT, Nat.reduceLeDiff, Nat.reduceEqDiff, Nat.reduceMul, Nat.reduceSub, Nat.reduceBEq, bytI, rowsI, hf, hv_, h2, h3, h4, h6, h7, hl2, decide_true, decide_false] <;> (first | exact True.intro | (((try simp (disch := omega) only [seaWrap, Int.natCast_add, Int.cast_ofNat_Int, and_true, true_and, and_self]); (repeat' (first | exact True.intro | omega | rfl | (with_reducible assumption) | (with_reducible refine And.intro ?_ ?_) | (exact all_succ (by assumption) (by assumption)) )); done)) | (refine Stuck.out ?_)))
    | ((fail_if_success (with_reducible show AW _ _ _ _)); simp (maxSteps := 2000000) only [go_sem, reduceIte, reduceCtorEq, Nat.reduceAdd, Nat.reduceLT, Nat.reduceLeDiff, Nat.reduceEqDiff, Nat.reduceMul, Nat.reduceSub, Nat.reduceBEq, Try.f8, fnok_11, ty_24, fnok_33, fnok_12, fnok_13, le_22, sl_22, ar_22, ty_25, le_25, of_24_0, ty_22, fnok_29, zc_24, fnok_18, bo_4, bytI, rowsI, hf, hv_, h2, h3, h4, h6, h7, hl2, decide_true, decide_false])
    | ((fail_if_success (with_reducible show AW _ _ _ _)); simp (disch := omega) only [seaWrap, seaDiv, seaMod])
    | ((with_reducible refine hK _ ?_); clear hK K)
    | (with_reducible apply_assumption -exfalso only [*]))
  all_goals rfl

theorem law8 (n : Nat) (m : Nat → Nat) (D : Nat → Nat → Int) (hn : n ≤ 9223372036854775807) (hm : ∀ i, i < n → m i ≤ 9223372036854775807) (hD : BytD D) (n' : Nat) (m' : Nat → Nat) (D' : Nat → Nat → Int) (hb : n' ≤ 5864062014800) (hm' : ∀ i, i < n' → m' i ≤ 9223372036854775807) (hD' : BytD D') (r : Nat) (R : Nat → Int) (hr : r ≤ 9223372036854775807) (hR : Byt R) : CallsP Try.prog 8 [.agg [.lst 1 (n) (rowsI (m) (D))], .one (.lst 1 (n') (rowsI (m') (D'))), .one (.lst 1 (r) (bytI (R)))] (.t (.one (.g (.bool true)))) := by
  cases hf : fewB n m (n' + 1) (snocM n' m' r) with
  | false => exact law8_b n m D hn hm hD n' m' D' hb hm' hD' r R hr hR (Or.inl hf)
  | true =>
    cases hv_ : vB n m D with
    | false => exact law8_b n m D hn hm hD n' m' D' hb hm' hD' r R hr hR (Or.inr hv_)
    | true =>
      obtain ⟨hn17, hq19, hr6, hl⟩ := few_w hf
      obtain ⟨k, hs, hk1, hk, hok⟩ := vB_parts hD hv_
      have hbd := encP_b6 m' n' hl
      have hh : hlf n ≤ 8 := by unfold hlf; omega
      have h3 := hs.h3
      have hlm : ∀ i, i < n' → m' i ≤ 65535 := fun i hi => by have := hl i hi; omega
      obtain ⟨d1, d2⟩ := cmp_val (n := n) (m := m) (D := D) (n' := n') (m' := m') (af := 1048576) hv_ hlm (by decide)
      by_cases hfit : encP m' n' ≤ hlf n * 64
      · have hE : BytD (cmpD n D n' m' D' 1048576) := cmpD_b hD (by omega) hD'
        have hnE := cmp_new hD n' m' D' hv_ hlm hfit (show hlf n * 64 < 1048576 by omega)
        obtain ⟨c1, c2⟩ := cut_val (n := n) (m := c64) (D := cmpD n D n' m' D' 1048576) (r := r) (af := 1048576) hnE.v (by omega) (by decide)
        have hfe : fitB n (cmpD n D n' m' D' 1048576) r = decide (encP m' n' + (r + 3) ≤ hlf n * 64) := by unfold fitB; rw [hnE.e]
        by_cases h9 : encP m' n' + (r + 3) ≤ hlf n * 64
        · rw [decide_eq_true h9] at hfe
          exact law8_ok0 n m D hn hm hD n' m' D' hb hm' hD' r R hr hR hf hv_ hq19 hn17 (by omega) hr6 hl (by omega) hfit (d1 hfit).1 (d1 hfit).2 _ hE rfl (c1 hfe).1 (eq_true (by omega))
        · rw [decide_eq_false h9] at hfe
          exact law8_ok1 n m D hn hm hD n' m' D' hb hm' hD' r R hr hR hf hv_ hq19 hn17 (by omega) hr6 hl (by omega) hfit (d1 hfit).1 (d1 hfit).2 _ hE rfl (c2 hfe) (eq_false (by omega))
      · exact law8_full n m D hn hm hD n' m' D' hb hm' hD' r R hr hR hf hv_ hq19 hn17 (by omega) hr6 hl (by omega) (by omega) (d2 hfit)

set_option maxRecDepth 100000 in
set_option maxHeartbeats 4000000 in
theorem law9_b (n : Nat) (m : Nat → Nat) (D : Nat → Nat → Int) (hn : n ≤ 9223372036854775807) (hm : ∀ i, i < n → m i ≤ 9223372036854775807) (hD : BytD D) (n' : Nat) (m' : Nat → Nat) (D' : Nat → Nat → Int) (hb : n' ≤ 5864062014800) (hm' : ∀ i, i < n' → m' i ≤ 9223372036854775807) (hD' : BytD D') (r : Nat) (R : Nat → Int) (hr : r ≤ 9223372036854775807) (hR : Byt R) (af : Int) (haf : -9223372036854775808 ≤ af ∧ af ≤ 9223372036854775807) (mo : Int) (hmo : -9223372036854775808 ≤ mo ∧ mo ≤ 9223372036854775807) (hbad : fewB n m (n' + 1) (snocM n' m' r) = false ∨ vB n m D = false ∨ af < 0 ∨ mo < af) : CallsP Try.prog 9 [.agg [.lst 1 (n) (rowsI (m) (D))], .one (.lst 1 (r) (bytI (R))), .one (.lst 1 (n') (rowsI (m') (D'))), .one (.g (.int .i64 (af))), .one (.g (.int .i64 (mo)))] (.t (.one (.g (.bool (true))))) := by
  have hn' : n' ≤ 9223372036854775807 := by omega
  have hmw : ∀ i, i < n' + 1 → snocM n' m' r i ≤ 9223372036854775807 := fun i hi => by unfold snocM; split; exact hm' i (by assumption); exact hr
  refine CallsP_of Try.func9 rfl (by rw [Try.ntmps9]; simp) ?_
  simp only [Try.ntmps9, List.map_cons, List.map_nil, PT.tv, argEnv, Nat.zero_add, Nat.reduceAdd]
  repeat' (first
    | (with_reducible refine callDGK_f0 ?_)
    | (with_reducible refine callGK_f0 ?_)
    | ((with_reducible show AW _ _ _ _); first
      | (with_reducible refine AW_seq_k fun K hK => ?_)
      | (with_reducible refine AW_skip ?_)
      | (with_reducible refine AW_exit ?_)
      | (with_reducible refine AW_ret ?_)
      | (with_reducible refine AW_condI ?_)
      | (with_reducible refine AW_block ?_)
      | ((with_reducible show AW _ (Code.region _ _ _) _ _); first
          | (with_reducible refine AW_regionP 0 [0, 1, 2, 3, 4] ?_)
          | (with_reducible refine AW_regionP 1 [1, 2, 3, 4, 5] ?_)
          | ((with_reducible refine AW_prune (c := Code.region 2 _ true) [1, 2, 3, 4, 5, 11] ?_); (with_reducible refine AW_regionD ?_ ?_ ?_ ?_); (focus kernel_rfl); (focus kernel_rfl); (focus kernel_rfl))
          | (with_reducible refine AW_regionP 3 [11] ?_)
          | (with_reducible refine AW_regionP 4 [1, 2, 3, 4, 5, 11] ?_)
          | (with_reducible refine AW_regionP 5 [1, 2, 3, 4, 5, 11, 12, 13] ?_)
          | (with_reducible refine AW_regionP 6 [2, 3, 4, 5, 11, 12, 13, 14, 15] ?_)
          | (with_reducible refine AW_regionP 7 [2, 3, 4, 5, 11, 12, 13, 14, 15, 16] ?_)
          | (with_reducible refine AW_regionP 8 [2, 3, 4, 5, 11, 12, 14, 15, 16] ?_)
          | (with_reducible refine AW_regionP 9 [2, 3, 4, 5, 11, 12, 14, 15, 16, 18, 19] ?_)
          | (with_reducible refine AW_regionP 10 [2, 3, 4, 5, 11, 12, 14, 15, 16, 18, 19, 20, 21] ?_)
          | (with_reducible refine AW_regionP 11 [2, 3, 4, 5, 11, 12, 14] ?_)
          | (with_reducible refine AW_regionP 12 [2, 4, 5, 11, 12, 13, 14] ?_)
          | (with_reducible refine AW_regionP 13 [5, 11, 12, 13, 14, 15] ?_)
          | (with_reducible refine AW_regionP 14 [11, 13, 15] ?_)
          | ((with_reducible refine AW_prune (c := Code.region 15 _ true) [5, 11, 12, 14, 15] ?_); (with_reducible refine AW_regionD ?_ ?_ ?_ ?_); (focus kernel_rfl); (focus kernel_rfl); (focus kernel_rfl))))
    | ((first | (with_reducible refine And.intro ?_ ?_) | (with_reducible refine Need.mk ?_)); focus (first | exact True.intro | (with_reducible assumption) | omega | (refine ⟨?_, ?_⟩ <;> omega) | (intro _; first | exact True.intro | (with_reducible assumption) | omega) | (intros; (repeat' (first | exact True.intro | omega | (with_reducible assumption) | (with_reducible refine And.intro ?_ ?_))); done) | (simp (disch := omega) only [Bool.and_eq_true, Bool.or_eq_true, decide_eq_true_eq, bne_iff_ne, ne_eq] at *; first | done | omega | (intros; omega)) | (simp; done) | (simp; omega) | (simp +contextual; done) | (intro h; rw [h]; rfl) | (intros; simp_all; done)))
    | (with_reducible refine retK_n ?_)
    | (with_reducible refine retK_n' ?_)
    | (with_reducible refine retH_n rfl rfl rfl ?_)
    | (with_reducible refine retH_n' rfl rfl rfl ?_)
    | (with_reducible refine retO_n ?_ ?_)
    | (with_reducible refine retO_n' ?_ ?_)
    | ((with_reducible show condN _ _ _ _ _ _); first
      | ((with_reducible refine condN_t ?_ ?_) <;> (intro hc; (try simp only [Bool.and_eq_true, Bool.or_eq_true, Bool.not_eq_true', Bool.and_eq_false_iff, Bool.or_eq_false_iff, decide_eq_true_eq, decide_eq_false_iff_not, bne_iff_ne, beq_iff_eq, reduceCtorEq, bne_eq_false_iff_eq, beq_eq_false_iff_ne, Bool.not_eq_false', Int.not_le, Int.not_lt, Bool.not_not] at hc); ((try (exfalso; rcases hbad with hbad | hbad | hbad | hbad; (have h9 := hc.1.1.1; rw [hbad] at h9; cases h9); (have h9 := hc.1.1.2; rw [hbad] at h9; cases h9); omega; omega))); (try (exfalso; first | contradiction | omega)))))
    | ((with_reducible refine And.intro ?_ ?_); focus ((with_reducible show chkR _ _ _ = true); kernel_rfl))
    | ((with_reducible show callN _ _ _ _ _ _ _ _ _ _); first
      | (refine callN_q (k := 11) fnok_11 (head_p) ?_ ?_)
      | (refine callN_q (k := 13) fnok_13 (valid_p n m D hn hm hD) ?_ ?_))
    | ((with_reducible show callDN _ _ _ _ _ _ _ _ _ _ _ _ _); first
      | (refine callDN_q (k := 33) fnok_33 (with_big n' m' D' hb hm' r R) ?_ ?_)
      | (refine callDN_q (k := 12) fnok_12 (few_p n m D (n' + 1) (snocM n' m' r) (snocD n' D' R) hn (by omega) hm hmw) ?_ ?_)
      | (refine callDN_q (k := 13) fnok_13 (valid_p n m D hn hm hD) ?_ ?_))
    | ((with_reducible show callDGN _ _ _ _ _ _ _ _ _ _ _ _ _); first
      | (refine callDGN_q (k := 13) fnok_13 (fun hg => valid_p n m D hn hm hD) ?_ ?_)
      | (refine callDGN_q (k := 14) fnok_14 (fun hg => rvalid_p n m D hn hm hD) ?_ ?_))
    | ((with_reducible show callGN _ _ _ _ _ _ _ _ _ _); first
      | (refine callGN_q (k := 13) fnok_13 (fun hg => valid_p n m D hn hm hD) ?_ ?_))
    | ((fail_if_success (with_reducible show AW _ _ _ _)); simp (maxSteps := 2000000) only [go_sem, reduceIte, reduceCtorEq, Nat.reduceAdd, Nat.reduceLT, Nat.reduceLeDiff, Nat.reduceEqDiff, Nat.reduceMul, Nat.reduceSub, Nat.reduceBEq, Try.f9, fnok_11, ty_24, fnok_33, fnok_12, fnok_14, fnok_20, zc_24, fnok_24, le_22, fnok_31, of_24_0, ty_22, sl_22, ar_22, ty_25, le_25, sl_25, ar_25, ty_5, bytI, rowsI])
    | ((fail_if_success (with_reducible show AW _ _ _ _)); simp (disch := omega) only [seaWrap, seaDiv, seaMod])
    | ((with_reducible refine hK _ ?_); clear hK K))

set_option maxRecDepth 100000 in
set_option maxHeartbeats 4000000 in
theorem law9_00t (n : Nat) (m : Nat → Nat) (D : Nat → Nat → Int) (hn : n ≤ 9223372036854775807) (hm : ∀ i, i < n → m i ≤ 9223372036854775807) (hD : BytD D) (n' : Nat) (m' : Nat → Nat) (D' : Nat → Nat → Int) (hb : n' ≤ 5864062014800) (hm' : ∀ i, i < n' → m' i ≤ 9223372036854775807) (hD' : BytD D') (r : Nat) (R : Nat → Int) (hr : r ≤ 9223372036854775807) (hR : Byt R) (af : Int) (haf : -9223372036854775808 ≤ af ∧ af ≤ 9223372036854775807) (mo : Int) (hmo : -9223372036854775808 ≤ mo ∧ mo ≤ 9223372036854775807) (hf : fewB n m (n' + 1) (snocM n' m' r) = true) (hv_ : vB n m D = true) (h0 : (af < 0) = False) (h0' : (af > mo) = False) (hq19 : n' ≤ 19) (q : Nat) (hq : readN n m D = q) (hq5 : q ≤ 1000000) (h1 : rdE n m D = 0) (hn0 : ((n : Int) == 0) = false) (hn3 : 3 ≤ n) (hn17 : n ≤ 17) (c1 : cutE n m D r af = 0) (c1' : cutN n m D r af = n) (c2 : cutE n m D r mo = 0) (c2' : cutN n m D r mo = n) (E1 : Nat → Nat → Int) (hE1 : BytD E1) (e1 : apH n D r R af.toNat = E1) (v1 : rdE n c64 E1 = 0) (E2 : Nat → Nat → Int) (hE2 : BytD E2) (e2 : apH n D r R mo.toNat = E2) (v2 : rdE n c64 E2 = 0) (qa qb : Nat) (ha : readN n c64 E1 = qa) (hb' : readN n c64 E2 = qb) (hab : qa ≤ qb) (hbq : qb ≤ q + 1) (k1 : ((qa : Int) ≤ (qb : Int)) = True) (k2 : ((qb : Int) ≤ (q : Int) + 1) = True) (d1 : cmpE n m D n' m' af = 0) (d1' : cmpN n m D n' m' af = n) (d2 : cmpE n m D n' m' mo = 0) (d2' : cmpN n m D n' m' mo = n) (X : Nat → Nat → Int) (x1 : cmpD n D n' m' D' af.toNat = X) (Y : Nat → Nat → Int) (y1 : cmpD n D n' m' D' mo.toNat = Y) (bx : Bool) (g1 : (X 0 0 == D 0 0) = bx) (hm0 : 0 < m 0) (hbx : bx = true)  : CallsP Try.prog 9 [.agg [.lst 1 (n) (rowsI (m) (D))], .one (.lst 1 (r) (bytI (R))), .one (.lst 1 (n') (rowsI (m') (D'))), .one (.g (.int .i64 (af))), .one (.g (.int .i64 (mo)))] (.t (.one (.g (.bool (true))))) := by
  have hn' : n' ≤ 9223372036854775807 := by omega
  have hmw : ∀ i, i < n' + 1 → snocM n' m' r i ≤ 9223372036854775807 := fun i hi => by unfold snocM; split; exact hm' i (by assumption); exact hr
  subst hbx
  refine CallsP_of Try.func9 rfl (by rw [Try.ntmps9]; simp) ?_
  simp only [Try.ntmps9, List.map_cons, List.map_nil, PT.tv, argEnv, Nat.zero_add, Nat.reduceAdd]
  repeat' (first
    | (with_reducible refine callDGK_f0 ?_)
    | (with_reducible refine callGK_f0 ?_)
    | ((with_reducible show AW _ _ _ _); first
      | (with_reducible refine AW_seq_k fun K hK => ?_)
      | (with_reducible refine AW_skip ?_)
      | (with_reducible refine AW_exit ?_)
      | (with_reducible refine AW_ret ?_)
      | (with_reducible refine AW_condI ?_)
      | (with_reducible refine AW_block ?_)
      | ((with_reducible show AW _ (Code.region _ _ _) _ _); first
          | (with_reducible refine AW_regionP 0 [0, 1, 2, 3, 4] ?_)
          | (with_reducible refine AW_regionP 1 [1, 2, 3, 4, 5] ?_)
          | ((with_reducible refine AW_prune (c := Code.region 2 _ true) [1, 2, 3, 4, 5, 11] ?_); (with_reducible refine AW_regionD ?_ ?_ ?_ ?_); (focus kernel_rfl); (focus kernel_rfl); (focus kernel_rfl))
          | (with_reducible refine AW_regionP 3 [11] ?_)
          | (with_reducible refine AW_regionP 4 [1, 2, 3, 4, 5, 11] ?_)
          | (with_reducible refine AW_regionP 5 [1, 2, 3, 4, 5, 11, 12, 13] ?_)
          | (with_reducible refine AW_regionP 6 [2, 3, 4, 5, 11, 12, 13, 14, 15] ?_)
          | (with_reducible refine AW_regionP 7 [2, 3, 4, 5, 11, 12, 13, 14, 15, 16] ?_)
          | (with_reducible refine AW_regionP 8 [2, 3, 4, 5, 11, 12, 14, 15, 16] ?_)
          | (with_reducible refine AW_regionP 9 [2, 3, 4, 5, 11, 12, 14, 15, 16, 18, 19] ?_)
          | (with_reducible refine AW_regionP 10 [2, 3, 4, 5, 11, 12, 14, 15, 16, 18, 19, 20, 21] ?_)
          | (with_reducible refine AW_regionP 11 [2, 3, 4, 5, 11, 12, 14] ?_)
          | (with_reducible refine AW_regionP 12 [2, 4, 5, 11, 12, 13, 14] ?_)
          | (with_reducible refine AW_regionP 13 [5, 11, 12, 13, 14, 15] ?_)
          | (with_reducible refine AW_regionP 14 [11, 13, 15] ?_)
          | ((with_reducible refine AW_prune (c := Code.region 15 _ true) [5, 11, 12, 14, 15] ?_); (with_reducible refine AW_regionD ?_ ?_ ?_ ?_); (focus kernel_rfl); (focus kernel_rfl); (focus kernel_rfl))))
    | ((first | (with_reducible refine And.intro ?_ ?_) | (with_reducible refine Need.mk ?_)); focus (first | exact True.intro | (with_reducible assumption) | omega | (refine ⟨?_, ?_⟩ <;> omega) | (intro _; first | exact True.intro | (with_reducible assumption) | omega) | (intros; (repeat' (first | exact True.intro | omega | (with_reducible assumption) | (with_reducible refine And.intro ?_ ?_))); done) | (simp (disch := omega) only [Bool.and_eq_true, Bool.or_eq_true, decide_eq_true_eq, bne_iff_ne, ne_eq] at *; first | done | omega | (intros; omega)) | (simp; done) | (simp; omega) | (simp +contextual; done) | (intro h; rw [h]; rfl) | (intros; simp_all; done)))
    | (with_reducible refine retK_n ?_)
    | (with_reducible refine retK_n' ?_)
    | (with_reducible refine retH_n rfl rfl rfl ?_)
    | (with_reducible refine retH_n' rfl rfl rfl ?_)
    | (with_reducible refine retO_n ?_ ?_)
    | (with_reducible refine retO_n' ?_ ?_)
    | ((with_reducible show condN _ _ _ _ _ _); first
      | ((with_reducible refine condN_t ?_ ?_) <;> (intro hc; (try simp only [Bool.and_eq_true, Bool.or_eq_true, Bool.not_eq_true', Bool.and_eq_false_iff, Bool.or_eq_false_iff, decide_eq_true_eq, decide_eq_false_iff_not, bne_iff_ne, beq_iff_eq, reduceCtorEq, bne_eq_false_iff_eq, beq_eq_false_iff_ne, Bool.not_eq_false', Int.not_le, Int.not_lt, Bool.not_not] at hc); (skip); (try (exfalso; first | contradiction | omega)))))
    | ((with_reducible refine And.intro ?_ ?_); focus ((with_reducible show chkR _ _ _ = true); kernel_rfl))
    | ((with_reducible show callN _ _ _ _ _ _ _ _ _ _); first
      | (refine callN_q (k := 11) fnok_11 (head_p) ?_ ?_)
      | (refine callN_q (k := 13) fnok_13 (valid_p n m D hn hm hD) ?_ ?_)
      | (refine callN_q (k := 20) fnok_20 (cut_p n m D hn hm hD r R hr af haf) ?_ ?_)
      | (refine callN_q (k := 20) fnok_20 (cut_p n m D hn hm hD r R hr mo hmo) ?_ ?_)
      | (refine callN_q (k := 31) fnok_31 (cc_p n m D hn hm hD n' m' D' (by omega) hm' af haf) ?_ ?_)
      | (refine callN_q (k := 31) fnok_31 (cc_p n m D hn hm hD n' m' D' (by omega) hm' mo hmo) ?_ ?_)
      | (refine callN_q (k := 24) fnok_24 (read_p n m D hn hm hD) ?_ ?_)
      | (refine callN_q (k := 24) fnok_24 (read_p n c64 E1 hn (c64_le n) hE1) ?_ ?_)
      | (refine callN_q (k := 24) fnok_24 (read_p n c64 E2 hn (c64_le n) hE2) ?_ ?_))
    | ((with_reducible show callDN _ _ _ _ _ _ _ _ _ _ _ _ _); first
      | (refine callDN_q (k := 33) fnok_33 (with_big n' m' D' hb hm' r R) ?_ ?_)
      | (refine callDN_q (k := 12) fnok_12 (few_p n m D (n' + 1) (snocM n' m' r) (snocD n' D' R) hn (by omega) hm hmw) ?_ ?_)
      | (refine callDN_q (k := 13) fnok_13 (valid_p n m D hn hm hD) ?_ ?_))
    | ((with_reducible show callDGN _ _ _ _ _ _ _ _ _ _ _ _ _); first
      | (refine callDGN_q (k := 13) fnok_13 (fun hg => valid_p n m D hn hm hD) ?_ ?_)
      | (refine callDGN_q (k := 14) fnok_14 (fun hg => rvalid_p n m D hn hm hD) ?_ ?_))
    | ((with_reducible show callGN _ _ _ _ _ _ _ _ _ _); first
      | (refine callGN_q (k := 13) fnok_13 (fun hg => valid_p n m D hn hm hD) ?_ ?_))
    | ((fail_if_success (with_reducible show AW _ _ _ _)); simp (maxSteps := 2000000) only [go_sem, reduceIte, reduceCtorEq, Nat.reduceAdd, Nat.reduceLT, Nat.reduceLeDiff, Nat.reduceEqDiff, Nat.reduceMul, Nat.reduceSub, Nat.reduceBEq, Try.f9, fnok_11, ty_24, fnok_33, fnok_12, fnok_14, fnok_20, zc_24, fnok_24, le_22, fnok_31, of_24_0, ty_22, sl_22, ar_22, ty_25, le_25, sl_25, ar_25, ty_5, bytI, rowsI, hf, hv_, h0, h0', hq, h1, hn0, c64, c1, c2, d1, d2, c1', c2', e1, v1, e2, v2, ha, hb', k1, k2, d1', d2', x1, y1, g1, decide_true, decide_false])
    | ((fail_if_success (with_reducible show AW _ _ _ _)); simp (disch := omega) only [seaWrap, seaDiv, seaMod])
    | ((with_reducible refine hK _ ?_); clear hK K))

set_option maxRecDepth 100000 in
set_option maxHeartbeats 4000000 in
theorem law9_00f (n : Nat) (m : Nat → Nat) (D : Nat → Nat → Int) (hn : n ≤ 9223372036854775807) (hm : ∀ i, i < n → m i ≤ 9223372036854775807) (hD : BytD D) (n' : Nat) (m' : Nat → Nat) (D' : Nat → Nat → Int) (hb : n' ≤ 5864062014800) (hm' : ∀ i, i < n' → m' i ≤ 9223372036854775807) (hD' : BytD D') (r : Nat) (R : Nat → Int) (hr : r ≤ 9223372036854775807) (hR : Byt R) (af : Int) (haf : -9223372036854775808 ≤ af ∧ af ≤ 9223372036854775807) (mo : Int) (hmo : -9223372036854775808 ≤ mo ∧ mo ≤ 9223372036854775807) (hf : fewB n m (n' + 1) (snocM n' m' r) = true) (hv_ : vB n m D = true) (h0 : (af < 0) = False) (h0' : (af > mo) = False) (hq19 : n' ≤ 19) (q : Nat) (hq : readN n m D = q) (hq5 : q ≤ 1000000) (h1 : rdE n m D = 0) (hn0 : ((n : Int) == 0) = false) (hn3 : 3 ≤ n) (hn17 : n ≤ 17) (c1 : cutE n m D r af = 0) (c1' : cutN n m D r af = n) (c2 : cutE n m D r mo = 0) (c2' : cutN n m D r mo = n) (E1 : Nat → Nat → Int) (hE1 : BytD E1) (e1 : apH n D r R af.toNat = E1) (v1 : rdE n c64 E1 = 0) (E2 : Nat → Nat → Int) (hE2 : BytD E2) (e2 : apH n D r R mo.toNat = E2) (v2 : rdE n c64 E2 = 0) (qa qb : Nat) (ha : readN n c64 E1 = qa) (hb' : readN n c64 E2 = qb) (hab : qa ≤ qb) (hbq : qb ≤ q + 1) (k1 : ((qa : Int) ≤ (qb : Int)) = True) (k2 : ((qb : Int) ≤ (q : Int) + 1) = True) (d1 : cmpE n m D n' m' af = 0) (d1' : cmpN n m D n' m' af = n) (d2 : cmpE n m D n' m' mo = 0) (d2' : cmpN n m D n' m' mo = n) (X : Nat → Nat → Int) (x1 : cmpD n D n' m' D' af.toNat = X) (Y : Nat → Nat → Int) (y1 : cmpD n D n' m' D' mo.toNat = Y) (bx : Bool) (g1 : (X 0 0 == D 0 0) = bx) (hm0 : 0 < m 0) (g2 : (X 0 0 == Y 0 0) = true) (hbx : bx = false)  : CallsP Try.prog 9 [.agg [.lst 1 (n) (rowsI (m) (D))], .one (.lst 1 (r) (bytI (R))), .one (.lst 1 (n') (rowsI (m') (D'))), .one (.g (.int .i64 (af))), .one (.g (.int .i64 (mo)))] (.t (.one (.g (.bool (true))))) := by
  have hn' : n' ≤ 9223372036854775807 := by omega
  have hmw : ∀ i, i < n' + 1 → snocM n' m' r i ≤ 9223372036854775807 := fun i hi => by unfold snocM; split; exact hm' i (by assumption); exact hr
  subst hbx
  refine CallsP_of Try.func9 rfl (by rw [Try.ntmps9]; simp) ?_
  simp only [Try.ntmps9, List.map_cons, List.map_nil, PT.tv, argEnv, Nat.zero_add, Nat.reduceAdd]
  repeat' (first
    | (with_reducible refine callDGK_f0 ?_)
    | (with_reducible refine callGK_f0 ?_)
    | ((with_reducible show AW _ _ _ _); first
      | (with_reducible refine AW_seq_k fun K hK => ?_)
      | (with_reducible refine AW_skip ?_)
      | (with_reducible refine AW_exit ?_)
      | (with_reducible refine AW_ret ?_)
      | (with_reducible refine AW_condI ?_)
      | (with_reducible refine AW_block ?_)
      | ((with_reducible show AW _ (Code.region _ _ _) _ _); first
          | (with_reducible refine AW_regionP 0 [0, 1, 2, 3, 4] ?_)
          | (with_reducible refine AW_regionP 1 [1, 2, 3, 4, 5] ?_)
          | ((with_reducible refine AW_prune (c := Code.region 2 _ true) [1, 2, 3, 4, 5, 11] ?_); (with_reducible refine AW_regionD ?_ ?_ ?_ ?_); (focus kernel_rfl); (focus kernel_rfl); (focus kernel_rfl))
          | (with_reducible refine AW_regionP 3 [11] ?_)
          | (with_reducible refine AW_regionP 4 [1, 2, 3, 4, 5, 11] ?_)
          | (with_reducible refine AW_regionP 5 [1, 2, 3, 4, 5, 11, 12, 13] ?_)
          | (with_reducible refine AW_regionP 6 [2, 3, 4, 5, 11, 12, 13, 14, 15] ?_)
          | (with_reducible refine AW_regionP 7 [2, 3, 4, 5, 11, 12, 13, 14, 15, 16] ?_)
          | (with_reducible refine AW_regionP 8 [2, 3, 4, 5, 11, 12, 14, 15, 16] ?_)
          | (with_reducible refine AW_regionP 9 [2, 3, 4, 5, 11, 12, 14, 15, 16, 18, 19] ?_)
          | (with_reducible refine AW_regionP 10 [2, 3, 4, 5, 11, 12, 14, 15, 16, 18, 19, 20, 21] ?_)
          | (with_reducible refine AW_regionP 11 [2, 3, 4, 5, 11, 12, 14] ?_)
          | (with_reducible refine AW_regionP 12 [2, 4, 5, 11, 12, 13, 14] ?_)
          | (with_reducible refine AW_regionP 13 [5, 11, 12, 13, 14, 15] ?_)
          | (with_reducible refine AW_regionP 14 [11, 13, 15] ?_)
          | ((with_reducible refine AW_prune (c := Code.region 15 _ true) [5, 11, 12, 14, 15] ?_); (with_reducible refine AW_regionD ?_ ?_ ?_ ?_); (focus kernel_rfl); (focus kernel_rfl); (focus kernel_rfl))))
    | ((first | (with_reducible refine And.intro ?_ ?_) | (with_reducible refine Need.mk ?_)); focus (first | exact True.intro | (with_reducible assumption) | omega | (refine ⟨?_, ?_⟩ <;> omega) | (intro _; first | exact True.intro | (with_reducible assumption) | omega) | (intros; (repeat' (first | exact True.intro | omega | (with_reducible assumption) | (with_reducible refine And.intro ?_ ?_))); done) | (simp (disch := omega) only [Bool.and_eq_true, Bool.or_eq_true, decide_eq_true_eq, bne_iff_ne, ne_eq] at *; first | done | omega | (intros; omega)) | (simp; done) | (simp; omega) | (simp +contextual; done) | (intro h; rw [h]; rfl) | (intros; simp_all; done)))
    | (with_reducible refine retK_n ?_)
    | (with_reducible refine retK_n' ?_)
    | (with_reducible refine retH_n rfl rfl rfl ?_)
    | (with_reducible refine retH_n' rfl rfl rfl ?_)
    | (with_reducible refine retO_n ?_ ?_)
    | (with_reducible refine retO_n' ?_ ?_)
    | ((with_reducible show condN _ _ _ _ _ _); first
      | ((with_reducible refine condN_t ?_ ?_) <;> (intro hc; (try simp only [Bool.and_eq_true, Bool.or_eq_true, Bool.not_eq_true', Bool.and_eq_false_iff, Bool.or_eq_false_iff, decide_eq_true_eq, decide_eq_false_iff_not, bne_iff_ne, beq_iff_eq, reduceCtorEq, bne_eq_false_iff_eq, beq_eq_false_iff_ne, Bool.not_eq_false', Int.not_le, Int.not_lt, Bool.not_not] at hc); (skip); (try (exfalso; first | contradiction | omega)))))
    | ((with_reducible refine And.intro ?_ ?_); focus ((with_reducible show chkR _ _ _ = true); kernel_rfl))
    | ((with_reducible show callN _ _ _ _ _ _ _ _ _ _); first
      | (refine callN_q (k := 11) fnok_11 (head_p) ?_ ?_)
      | (refine callN_q (k := 13) fnok_13 (valid_p n m D hn hm hD) ?_ ?_)
      | (refine callN_q (k := 20) fnok_20 (cut_p n m D hn hm hD r R hr af haf) ?_ ?_)
      | (refine callN_q (k := 20) fnok_20 (cut_p n m D hn hm hD r R hr mo hmo) ?_ ?_)
      | (refine callN_q (k := 31) fnok_31 (cc_p n m D hn hm hD n' m' D' (by omega) hm' af haf) ?_ ?_)
      | (refine callN_q (k := 31) fnok_31 (cc_p n m D hn hm hD n' m' D' (by omega) hm' mo hmo) ?_ ?_)
      | (refine callN_q (k := 24) fnok_24 (read_p n m D hn hm hD) ?_ ?_)
      | (refine callN_q (k := 24) fnok_24 (read_p n c64 E1 hn (c64_le n) hE1) ?_ ?_)
      | (refine callN_q (k := 24) fnok_24 (read_p n c64 E2 hn (c64_le n) hE2) ?_ ?_))
    | ((with_reducible show callDN _ _ _ _ _ _ _ _ _ _ _ _ _); first
      | (refine callDN_q (k := 33) fnok_33 (with_big n' m' D' hb hm' r R) ?_ ?_)
      | (refine callDN_q (k := 12) fnok_12 (few_p n m D (n' + 1) (snocM n' m' r) (snocD n' D' R) hn (by omega) hm hmw) ?_ ?_)
      | (refine callDN_q (k := 13) fnok_13 (valid_p n m D hn hm hD) ?_ ?_))
    | ((with_reducible show callDGN _ _ _ _ _ _ _ _ _ _ _ _ _); first
      | (refine callDGN_q (k := 13) fnok_13 (fun hg => valid_p n m D hn hm hD) ?_ ?_)
      | (refine callDGN_q (k := 14) fnok_14 (fun hg => rvalid_p n m D hn hm hD) ?_ ?_))
    | ((with_reducible show callGN _ _ _ _ _ _ _ _ _ _); first
      | (refine callGN_q (k := 13) fnok_13 (fun hg => valid_p n m D hn hm hD) ?_ ?_))
    | ((fail_if_success (with_reducible show AW _ _ _ _)); simp (maxSteps := 2000000) only [go_sem, reduceIte, reduceCtorEq, Nat.reduceAdd, Nat.reduceLT, Nat.reduceLeDiff, Nat.reduceEqDiff, Nat.reduceMul, Nat.reduceSub, Nat.reduceBEq, Try.f9, fnok_11, ty_24, fnok_33, fnok_12, fnok_14, fnok_20, zc_24, fnok_24, le_22, fnok_31, of_24_0, ty_22, sl_22, ar_22, ty_25, le_25, sl_25, ar_25, ty_5, bytI, rowsI, hf, hv_, h0, h0', hq, h1, hn0, c64, c1, c2, d1, d2, c1', c2', e1, v1, e2, v2, ha, hb', k1, k2, d1', d2', x1, y1, g1, g2, decide_true, decide_false])
    | ((fail_if_success (with_reducible show AW _ _ _ _)); simp (disch := omega) only [seaWrap, seaDiv, seaMod])
    | ((with_reducible refine hK _ ?_); clear hK K))

set_option maxRecDepth 100000 in
set_option maxHeartbeats 4000000 in
theorem law9_01 (n : Nat) (m : Nat → Nat) (D : Nat → Nat → Int) (hn : n ≤ 9223372036854775807) (hm : ∀ i, i < n → m i ≤ 9223372036854775807) (hD : BytD D) (n' : Nat) (m' : Nat → Nat) (D' : Nat → Nat → Int) (hb : n' ≤ 5864062014800) (hm' : ∀ i, i < n' → m' i ≤ 9223372036854775807) (hD' : BytD D') (r : Nat) (R : Nat → Int) (hr : r ≤ 9223372036854775807) (hR : Byt R) (af : Int) (haf : -9223372036854775808 ≤ af ∧ af ≤ 9223372036854775807) (mo : Int) (hmo : -9223372036854775808 ≤ mo ∧ mo ≤ 9223372036854775807) (hf : fewB n m (n' + 1) (snocM n' m' r) = true) (hv_ : vB n m D = true) (h0 : (af < 0) = False) (h0' : (af > mo) = False) (hq19 : n' ≤ 19) (q : Nat) (hq : readN n m D = q) (hq5 : q ≤ 1000000) (h1 : rdE n m D = 0) (hn0 : ((n : Int) == 0) = false) (hn3 : 3 ≤ n) (hn17 : n ≤ 17) (c1 : cutE n m D r af = 0) (c1' : cutN n m D r af = n) (c2 : cutE n m D r mo = 0) (c2' : cutN n m D r mo = n) (E1 : Nat → Nat → Int) (hE1 : BytD E1) (e1 : apH n D r R af.toNat = E1) (v1 : rdE n c64 E1 = 0) (E2 : Nat → Nat → Int) (hE2 : BytD E2) (e2 : apH n D r R mo.toNat = E2) (v2 : rdE n c64 E2 = 0) (qa qb : Nat) (ha : readN n c64 E1 = qa) (hb' : readN n c64 E2 = qb) (hab : qa ≤ qb) (hbq : qb ≤ q + 1) (k1 : ((qa : Int) ≤ (qb : Int)) = True) (k2 : ((qb : Int) ≤ (q : Int) + 1) = True) (d1 : cmpE n m D n' m' af = 17) (d2 : cmpE n m D n' m' mo = 17)  : CallsP Try.prog 9 [.agg [.lst 1 (n) (rowsI (m) (D))], .one (.lst 1 (r) (bytI (R))), .one (.lst 1 (n') (rowsI (m') (D'))), .one (.g (.int .i64 (af))), .one (.g (.int .i64 (mo)))] (.t (.one (.g (.bool (true))))) := by
  have hn' : n' ≤ 9223372036854775807 := by omega
  have hmw : ∀ i, i < n' + 1 → snocM n' m' r i ≤ 9223372036854775807 := fun i hi => by unfold snocM; split; exact hm' i (by assumption); exact hr
  refine CallsP_of Try.func9 rfl (by rw [Try.ntmps9]; simp) ?_
  simp only [Try.ntmps9, List.map_cons, List.map_nil, PT.tv, argEnv, Nat.zero_add, Nat.reduceAdd]
  repeat' (first
    | (with_reducible refine callDGK_f0 ?_)
    | (with_reducible refine callGK_f0 ?_)
    | ((with_reducible show AW _ _ _ _); first
      | (with_reducible refine AW_seq_k fun K hK => ?_)
      | (with_reducible refine AW_skip ?_)
      | (with_reducible refine AW_exit ?_)
      | (with_reducible refine AW_ret ?_)
      | (with_reducible refine AW_condI ?_)
      | (with_reducible refine AW_block ?_)
      | ((with_reducible show AW _ (Code.region _ _ _) _ _); first
          | (with_reducible refine AW_regionP 0 [0, 1, 2, 3, 4] ?_)
          | (with_reducible refine AW_regionP 1 [1, 2, 3, 4, 5] ?_)
          | ((with_reducible refine AW_prune (c := Code.region 2 _ true) [1, 2, 3, 4, 5, 11] ?_); (with_reducible refine AW_regionD ?_ ?_ ?_ ?_); (focus kernel_rfl); (focus kernel_rfl); (focus kernel_rfl))
          | (with_reducible refine AW_regionP 3 [11] ?_)
          | (with_reducible refine AW_regionP 4 [1, 2, 3, 4, 5, 11] ?_)
          | (with_reducible refine AW_regionP 5 [1, 2, 3, 4, 5, 11, 12, 13] ?_)
          | (with_reducible refine AW_regionP 6 [2, 3, 4, 5, 11, 12, 13, 14, 15] ?_)
          | (with_reducible refine AW_regionP 7 [2, 3, 4, 5, 11, 12, 13, 14, 15, 16] ?_)
          | (with_reducible refine AW_regionP 8 [2, 3, 4, 5, 11, 12, 14, 15, 16] ?_)
          | (with_reducible refine AW_regionP 9 [2, 3, 4, 5, 11, 12, 14, 15, 16, 18, 19] ?_)
          | (with_reducible refine AW_regionP 10 [2, 3, 4, 5, 11, 12, 14, 15, 16, 18, 19, 20, 21] ?_)
          | (with_reducible refine AW_regionP 11 [2, 3, 4, 5, 11, 12, 14] ?_)
          | (with_reducible refine AW_regionP 12 [2, 4, 5, 11, 12, 13, 14] ?_)
          | (with_reducible refine AW_regionP 13 [5, 11, 12, 13, 14, 15] ?_)
          | (with_reducible refine AW_regionP 14 [11, 13, 15] ?_)
          | ((with_reducible refine AW_prune (c := Code.region 15 _ true) [5, 11, 12, 14, 15] ?_); (with_reducible refine AW_regionD ?_ ?_ ?_ ?_); (focus kernel_rfl); (focus kernel_rfl); (focus kernel_rfl))))
    | ((first | (with_reducible refine And.intro ?_ ?_) | (with_reducible refine Need.mk ?_)); focus (first | exact True.intro | (with_reducible assumption) | omega | (refine ⟨?_, ?_⟩ <;> omega) | (intro _; first | exact True.intro | (with_reducible assumption) | omega) | (intros; (repeat' (first | exact True.intro | omega | (with_reducible assumption) | (with_reducible refine And.intro ?_ ?_))); done) | (simp (disch := omega) only [Bool.and_eq_true, Bool.or_eq_true, decide_eq_true_eq, bne_iff_ne, ne_eq] at *; first | done | omega | (intros; omega)) | (simp; done) | (simp; omega) | (simp +contextual; done) | (intro h; rw [h]; rfl) | (intros; simp_all; done)))
    | (with_reducible refine retK_n ?_)
    | (with_reducible refine retK_n' ?_)
    | (with_reducible refine retH_n rfl rfl rfl ?_)
    | (with_reducible refine retH_n' rfl rfl rfl ?_)
    | (with_reducible refine retO_n ?_ ?_)
    | (with_reducible refine retO_n' ?_ ?_)
    | ((with_reducible show condN _ _ _ _ _ _); first
      | ((with_reducible refine condN_t ?_ ?_) <;> (intro hc; (try simp only [Bool.and_eq_true, Bool.or_eq_true, Bool.not_eq_true', Bool.and_eq_false_iff, Bool.or_eq_false_iff, decide_eq_true_eq, decide_eq_false_iff_not, bne_iff_ne, beq_iff_eq, reduceCtorEq, bne_eq_false_iff_eq, beq_eq_false_iff_ne, Bool.not_eq_false', Int.not_le, Int.not_lt, Bool.not_not] at hc); (skip); (try (exfalso; first | contradiction | omega)))))
    | ((with_reducible refine And.intro ?_ ?_); focus ((with_reducible show chkR _ _ _ = true); kernel_rfl))
    | ((with_reducible show callN _ _ _ _ _ _ _ _ _ _); first
      | (refine callN_q (k := 11) fnok_11 (head_p) ?_ ?_)
      | (refine callN_q (k := 13) fnok_13 (valid_p n m D hn hm hD) ?_ ?_)
      | (refine callN_q (k := 20) fnok_20 (cut_p n m D hn hm hD r R hr af haf) ?_ ?_)
      | (refine callN_q (k := 20) fnok_20 (cut_p n m D hn hm hD r R hr mo hmo) ?_ ?_)
      | (refine callN_q (k := 31) fnok_31 (cc_p n m D hn hm hD n' m' D' (by omega) hm' af haf) ?_ ?_)
      | (refine callN_q (k := 31) fnok_31 (cc_p n m D hn hm hD n' m' D' (by omega) hm' mo hmo) ?_ ?_)
      | (refine callN_q (k := 24) fnok_24 (read_p n m D hn hm hD) ?_ ?_)
      | (refine callN_q (k := 24) fnok_24 (read_p n c64 E1 hn (c64_le n) hE1) ?_ ?_)
      | (refine callN_q (k := 24) fnok_24 (read_p n c64 E2 hn (c64_le n) hE2) ?_ ?_))
    | ((with_reducible show callDN _ _ _ _ _ _ _ _ _ _ _ _ _); first
      | (refine callDN_q (k := 33) fnok_33 (with_big n' m' D' hb hm' r R) ?_ ?_)
      | (refine callDN_q (k := 12) fnok_12 (few_p n m D (n' + 1) (snocM n' m' r) (snocD n' D' R) hn (by omega) hm hmw) ?_ ?_)
      | (refine callDN_q (k := 13) fnok_13 (valid_p n m D hn hm hD) ?_ ?_))
    | ((with_reducible show callDGN _ _ _ _ _ _ _ _ _ _ _ _ _); first
      | (refine callDGN_q (k := 13) fnok_13 (fun hg => valid_p n m D hn hm hD) ?_ ?_)
      | (refine callDGN_q (k := 14) fnok_14 (fun hg => rvalid_p n m D hn hm hD) ?_ ?_))
    | ((with_reducible show callGN _ _ _ _ _ _ _ _ _ _); first
      | (refine callGN_q (k := 13) fnok_13 (fun hg => valid_p n m D hn hm hD) ?_ ?_))
    | ((fail_if_success (with_reducible show AW _ _ _ _)); simp (maxSteps := 2000000) only [go_sem, reduceIte, reduceCtorEq, Nat.reduceAdd, Nat.reduceLT, Nat.reduceLeDiff, Nat.reduceEqDiff, Nat.reduceMul, Nat.reduceSub, Nat.reduceBEq, Try.f9, fnok_11, ty_24, fnok_33, fnok_12, fnok_14, fnok_20, zc_24, fnok_24, le_22, fnok_31, of_24_0, ty_22, sl_22, ar_22, ty_25, le_25, sl_25, ar_25, ty_5, bytI, rowsI, hf, hv_, h0, h0', hq, h1, hn0, c64, c1, c2, d1, d2, c1', c2', e1, v1, e2, v2, ha, hb', k1, k2, decide_true, decide_false])
    | ((fail_if_success (with_reducible show AW _ _ _ _)); simp (disch := omega) only [seaWrap, seaDiv, seaMod])
    | ((with_reducible refine hK _ ?_); clear hK K))
  all_goals rfl

set_option maxRecDepth 100000 in
set_option maxHeartbeats 4000000 in
theorem law9_10t (n : Nat) (m : Nat → Nat) (D : Nat → Nat → Int) (hn : n ≤ 9223372036854775807) (hm : ∀ i, i < n → m i ≤ 9223372036854775807) (hD : BytD D) (n' : Nat) (m' : Nat → Nat) (D' : Nat → Nat → Int) (hb : n' ≤ 5864062014800) (hm' : ∀ i, i < n' → m' i ≤ 9223372036854775807) (hD' : BytD D') (r : Nat) (R : Nat → Int) (hr : r ≤ 9223372036854775807) (hR : Byt R) (af : Int) (haf : -9223372036854775808 ≤ af ∧ af ≤ 9223372036854775807) (mo : Int) (hmo : -9223372036854775808 ≤ mo ∧ mo ≤ 9223372036854775807) (hf : fewB n m (n' + 1) (snocM n' m' r) = true) (hv_ : vB n m D = true) (h0 : (af < 0) = False) (h0' : (af > mo) = False) (hq19 : n' ≤ 19) (q : Nat) (hq : readN n m D = q) (hq5 : q ≤ 1000000) (h1 : rdE n m D = 0) (hn0 : ((n : Int) == 0) = false) (hn3 : 3 ≤ n) (hn17 : n ≤ 17) (c1 : cutE n m D r af = 17) (c2 : cutE n m D r mo = 17) (d1 : cmpE n m D n' m' af = 0) (d1' : cmpN n m D n' m' af = n) (d2 : cmpE n m D n' m' mo = 0) (d2' : cmpN n m D n' m' mo = n) (X : Nat → Nat → Int) (x1 : cmpD n D n' m' D' af.toNat = X) (Y : Nat → Nat → Int) (y1 : cmpD n D n' m' D' mo.toNat = Y) (bx : Bool) (g1 : (X 0 0 == D 0 0) = bx) (hm0 : 0 < m 0) (hbx : bx = true)  : CallsP Try.prog 9 [.agg [.lst 1 (n) (rowsI (m) (D))], .one (.lst 1 (r) (bytI (R))), .one (.lst 1 (n') (rowsI (m') (D'))), .one (.g (.int .i64 (af))), .one (.g (.int .i64 (mo)))] (.t (.one (.g (.bool (true))))) := by
  have hn' : n' ≤ 9223372036854775807 := by omega
  have hmw : ∀ i, i < n' + 1 → snocM n' m' r i ≤ 9223372036854775807 := fun i hi => by unfold snocM; split; exact hm' i (by assumption); exact hr
  subst hbx
  refine CallsP_of Try.func9 rfl (by rw [Try.ntmps9]; simp) ?_
  simp only [Try.ntmps9, List.map_cons, List.map_nil, PT.tv, argEnv, Nat.zero_add, Nat.reduceAdd]
  repeat' (first
    | (with_reducible refine callDGK_f0 ?_)
    | (with_reducible refine callGK_f0 ?_)
    | ((with_reducible show AW _ _ _ _); first
      | (with_reducible refine AW_seq_k fun K hK => ?_)
      | (with_reducible refine AW_skip ?_)
      | (with_reducible refine AW_exit ?_)
      | (with_reducible refine AW_ret ?_)
      | (with_reducible refine AW_condI ?_)
      | (with_reducible refine AW_block ?_)
      | ((with_reducible show AW _ (Code.region _ _ _) _ _); first
          | (with_reducible refine AW_regionP 0 [0, 1, 2, 3, 4] ?_)
          | (with_reducible refine AW_regionP 1 [1, 2, 3, 4, 5] ?_)
          | ((with_reducible refine AW_prune (c := Code.region 2 _ true) [1, 2, 3, 4, 5, 11] ?_); (with_reducible refine AW_regionD ?_ ?_ ?_ ?_); (focus kernel_rfl); (focus kernel_rfl); (focus kernel_rfl))
          | (with_reducible refine AW_regionP 3 [11] ?_)
          | (with_reducible refine AW_regionP 4 [1, 2, 3, 4, 5, 11] ?_)
          | (with_reducible refine AW_regionP 5 [1, 2, 3, 4, 5, 11, 12, 13] ?_)
          | (with_reducible refine AW_regionP 6 [2, 3, 4, 5, 11, 12, 13, 14, 15] ?_)
          | (with_reducible refine AW_regionP 7 [2, 3, 4, 5, 11, 12, 13, 14, 15, 16] ?_)
          | (with_reducible refine AW_regionP 8 [2, 3, 4, 5, 11, 12, 14, 15, 16] ?_)
          | (with_reducible refine AW_regionP 9 [2, 3, 4, 5, 11, 12, 14, 15, 16, 18, 19] ?_)
          | (with_reducible refine AW_regionP 10 [2, 3, 4, 5, 11, 12, 14, 15, 16, 18, 19, 20, 21] ?_)
          | (with_reducible refine AW_regionP 11 [2, 3, 4, 5, 11, 12, 14] ?_)
          | (with_reducible refine AW_regionP 12 [2, 4, 5, 11, 12, 13, 14] ?_)
          | (with_reducible refine AW_regionP 13 [5, 11, 12, 13, 14, 15] ?_)
          | (with_reducible refine AW_regionP 14 [11, 13, 15] ?_)
          | ((with_reducible refine AW_prune (c := Code.region 15 _ true) [5, 11, 12, 14, 15] ?_); (with_reducible refine AW_regionD ?_ ?_ ?_ ?_); (focus kernel_rfl); (focus kernel_rfl); (focus kernel_rfl))))
    | ((first | (with_reducible refine And.intro ?_ ?_) | (with_reducible refine Need.mk ?_)); focus (first | exact True.intro | (with_reducible assumption) | omega | (refine ⟨?_, ?_⟩ <;> omega) | (intro _; first | exact True.intro | (with_reducible assumption) | omega) | (intros; (repeat' (first | exact True.intro | omega | (with_reducible assumption) | (with_reducible refine And.intro ?_ ?_))); done) | (simp (disch := omega) only [Bool.and_eq_true, Bool.or_eq_true, decide_eq_true_eq, bne_iff_ne, ne_eq] at *; first | done | omega | (intros; omega)) | (simp; done) | (simp; omega) | (simp +contextual; done) | (intro h; rw [h]; rfl) | (intros; simp_all; done)))
    | (with_reducible refine retK_n ?_)
    | (with_reducible refine retK_n' ?_)
    | (with_reducible refine retH_n rfl rfl rfl ?_)
    | (with_reducible refine retH_n' rfl rfl rfl ?_)
    | (with_reducible refine retO_n ?_ ?_)
    | (with_reducible refine retO_n' ?_ ?_)
    | ((with_reducible show condN _ _ _ _ _ _); first
      | ((with_reducible refine condN_t ?_ ?_) <;> (intro hc; (try simp only [Bool.and_eq_true, Bool.or_eq_true, Bool.not_eq_true', Bool.and_eq_false_iff, Bool.or_eq_false_iff, decide_eq_true_eq, decide_eq_false_iff_not, bne_iff_ne, beq_iff_eq, reduceCtorEq, bne_eq_false_iff_eq, beq_eq_false_iff_ne, Bool.not_eq_false', Int.not_le, Int.not_lt, Bool.not_not] at hc); (skip); (try (exfalso; first | contradiction | omega)))))
    | ((with_reducible refine And.intro ?_ ?_); focus ((with_reducible show chkR _ _ _ = true); kernel_rfl))
    | ((with_reducible show callN _ _ _ _ _ _ _ _ _ _); first
      | (refine callN_q (k := 11) fnok_11 (head_p) ?_ ?_)
      | (refine callN_q (k := 13) fnok_13 (valid_p n m D hn hm hD) ?_ ?_)
      | (refine callN_q (k := 20) fnok_20 (cut_p n m D hn hm hD r R hr af haf) ?_ ?_)
      | (refine callN_q (k := 20) fnok_20 (cut_p n m D hn hm hD r R hr mo hmo) ?_ ?_)
      | (refine callN_q (k := 31) fnok_31 (cc_p n m D hn hm hD n' m' D' (by omega) hm' af haf) ?_ ?_)
      | (refine callN_q (k := 31) fnok_31 (cc_p n m D hn hm hD n' m' D' (by omega) hm' mo hmo) ?_ ?_)
      | (refine callN_q (k := 24) fnok_24 (read_p n m D hn hm hD) ?_ ?_))
    | ((with_reducible show callDN _ _ _ _ _ _ _ _ _ _ _ _ _); first
      | (refine callDN_q (k := 33) fnok_33 (with_big n' m' D' hb hm' r R) ?_ ?_)
      | (refine callDN_q (k := 12) fnok_12 (few_p n m D (n' + 1) (snocM n' m' r) (snocD n' D' R) hn (by omega) hm hmw) ?_ ?_)
      | (refine callDN_q (k := 13) fnok_13 (valid_p n m D hn hm hD) ?_ ?_))
    | ((with_reducible show callDGN _ _ _ _ _ _ _ _ _ _ _ _ _); first
      | (refine callDGN_q (k := 13) fnok_13 (fun hg => valid_p n m D hn hm hD) ?_ ?_)
      | (refine callDGN_q (k := 14) fnok_14 (fun hg => rvalid_p n m D hn hm hD) ?_ ?_))
    | ((with_reducible show callGN _ _ _ _ _ _ _ _ _ _); first
      | (refine callGN_q (k := 13) fnok_13 (fun hg => valid_p n m D hn hm hD) ?_ ?_))
    | ((fail_if_success (with_reducible show AW _ _ _ _)); simp (maxSteps := 2000000) only [go_sem, reduceIte, reduceCtorEq, Nat.reduceAdd, Nat.reduceLT, Nat.reduceLeDiff, Nat.reduceEqDiff, Nat.reduceMul, Nat.reduceSub, Nat.reduceBEq, Try.f9, fnok_11, ty_24, fnok_33, fnok_12, fnok_14, fnok_20, zc_24, fnok_24, le_22, fnok_31, of_24_0, ty_22, sl_22, ar_22, ty_25, le_25, sl_25, ar_25, ty_5, bytI, rowsI, hf, hv_, h0, h0', hq, h1, hn0, c64, c1, c2, d1, d2, d1', d2', x1, y1, g1, decide_true, decide_false])
    | ((fail_if_success (with_reducible show AW _ _ _ _)); simp (disch := omega) only [seaWrap, seaDiv, seaMod])
    | ((with_reducible refine hK _ ?_); clear hK K))

set_option maxRecDepth 100000 in
set_option maxHeartbeats 4000000 in
theorem law9_10f (n : Nat) (m : Nat → Nat) (D : Nat → Nat → Int) (hn : n ≤ 9223372036854775807) (hm : ∀ i, i < n → m i ≤ 9223372036854775807) (hD : BytD D) (n' : Nat) (m' : Nat → Nat) (D' : Nat → Nat → Int) (hb : n' ≤ 5864062014800) (hm' : ∀ i, i < n' → m' i ≤ 9223372036854775807) (hD' : BytD D') (r : Nat) (R : Nat → Int) (hr : r ≤ 9223372036854775807) (hR : Byt R) (af : Int) (haf : -9223372036854775808 ≤ af ∧ af ≤ 9223372036854775807) (mo : Int) (hmo : -9223372036854775808 ≤ mo ∧ mo ≤ 9223372036854775807) (hf : fewB n m (n' + 1) (snocM n' m' r) = true) (hv_ : vB n m D = true) (h0 : (af < 0) = False) (h0' : (af > mo) = False) (hq19 : n' ≤ 19) (q : Nat) (hq : readN n m D = q) (hq5 : q ≤ 1000000) (h1 : rdE n m D = 0) (hn0 : ((n : Int) == 0) = false) (hn3 : 3 ≤ n) (hn17 : n ≤ 17) (c1 : cutE n m D r af = 17) (c2 : cutE n m D r mo = 17) (d1 : cmpE n m D n' m' af = 0) (d1' : cmpN n m D n' m' af = n) (d2 : cmpE n m D n' m' mo = 0) (d2' : cmpN n m D n' m' mo = n) (X : Nat → Nat → Int) (x1 : cmpD n D n' m' D' af.toNat = X) (Y : Nat → Nat → Int) (y1 : cmpD n D n' m' D' mo.toNat = Y) (bx : Bool) (g1 : (X 0 0 == D 0 0) = bx) (hm0 : 0 < m 0) (g2 : (X 0 0 == Y 0 0) = true) (hbx : bx = false)  : CallsP Try.prog 9 [.agg [.lst 1 (n) (rowsI (m) (D))], .one (.lst 1 (r) (bytI (R))), .one (.lst 1 (n') (rowsI (m') (D'))), .one (.g (.int .i64 (af))), .one (.g (.int .i64 (mo)))] (.t (.one (.g (.bool (true))))) := by
  have hn' : n' ≤ 9223372036854775807 := by omega
  have hmw : ∀ i, i < n' + 1 → snocM n' m' r i ≤ 9223372036854775807 := fun i hi => by unfold snocM; split; exact hm' i (by assumption); exact hr
  subst hbx
  refine CallsP_of Try.func9 rfl (by rw [Try.ntmps9]; simp) ?_
  simp only [Try.ntmps9, List.map_cons, List.map_nil, PT.tv, argEnv, Nat.zero_add, Nat.reduceAdd]
  repeat' (first
    | (with_reducible refine callDGK_f0 ?_)
    | (with_reducible refine callGK_f0 ?_)
    | ((with_reducible show AW _ _ _ _); first
      | (with_reducible refine AW_seq_k fun K hK => ?_)
      | (with_reducible refine AW_skip ?_)
      | (with_reducible refine AW_exit ?_)
      | (with_reducible refine AW_ret ?_)
      | (with_reducible refine AW_condI ?_)
      | (with_reducible refine AW_block ?_)
      | ((with_reducible show AW _ (Code.region _ _ _) _ _); first
          | (with_reducible refine AW_regionP 0 [0, 1, 2, 3, 4] ?_)
          | (with_reducible refine AW_regionP 1 [1, 2, 3, 4, 5] ?_)
          | ((with_reducible refine AW_prune (c := Code.region 2 _ true) [1, 2, 3, 4, 5, 11] ?_); (with_reducible refine AW_regionD ?_ ?_ ?_ ?_); (focus kernel_rfl); (focus kernel_rfl); (focus kernel_rfl))
          | (with_reducible refine AW_regionP 3 [11] ?_)
          | (with_reducible refine AW_regionP 4 [1, 2, 3, 4, 5, 11] ?_)
          | (with_reducible refine AW_regionP 5 [1, 2, 3, 4, 5, 11, 12, 13] ?_)
          | (with_reducible refine AW_regionP 6 [2, 3, 4, 5, 11, 12, 13, 14, 15] ?_)
          | (with_reducible refine AW_regionP 7 [2, 3, 4, 5, 11, 12, 13, 14, 15, 16] ?_)
          | (with_reducible refine AW_regionP 8 [2, 3, 4, 5, 11, 12, 14, 15, 16] ?_)
          | (with_reducible refine AW_regionP 9 [2, 3, 4, 5, 11, 12, 14, 15, 16, 18, 19] ?_)
          | (with_reducible refine AW_regionP 10 [2, 3, 4, 5, 11, 12, 14, 15, 16, 18, 19, 20, 21] ?_)
          | (with_reducible refine AW_regionP 11 [2, 3, 4, 5, 11, 12, 14] ?_)
          | (with_reducible refine AW_regionP 12 [2, 4, 5, 11, 12, 13, 14] ?_)
          | (with_reducible refine AW_regionP 13 [5, 11, 12, 13, 14, 15] ?_)
          | (with_reducible refine AW_regionP 14 [11, 13, 15] ?_)
          | ((with_reducible refine AW_prune (c := Code.region 15 _ true) [5, 11, 12, 14, 15] ?_); (with_reducible refine AW_regionD ?_ ?_ ?_ ?_); (focus kernel_rfl); (focus kernel_rfl); (focus kernel_rfl))))
    | ((first | (with_reducible refine And.intro ?_ ?_) | (with_reducible refine Need.mk ?_)); focus (first | exact True.intro | (with_reducible assumption) | omega | (refine ⟨?_, ?_⟩ <;> omega) | (intro _; first | exact True.intro | (with_reducible assumption) | omega) | (intros; (repeat' (first | exact True.intro | omega | (with_reducible assumption) | (with_reducible refine And.intro ?_ ?_))); done) | (simp (disch := omega) only [Bool.and_eq_true, Bool.or_eq_true, decide_eq_true_eq, bne_iff_ne, ne_eq] at *; first | done | omega | (intros; omega)) | (simp; done) | (simp; omega) | (simp +contextual; done) | (intro h; rw [h]; rfl) | (intros; simp_all; done)))
    | (with_reducible refine retK_n ?_)
    | (with_reducible refine retK_n' ?_)
    | (with_reducible refine retH_n rfl rfl rfl ?_)
    | (with_reducible refine retH_n' rfl rfl rfl ?_)
    | (with_reducible refine retO_n ?_ ?_)
    | (with_reducible refine retO_n' ?_ ?_)
    | ((with_reducible show condN _ _ _ _ _ _); first
      | ((with_reducible refine condN_t ?_ ?_) <;> (intro hc; (try simp only [Bool.and_eq_true, Bool.or_eq_true, Bool.not_eq_true', Bool.and_eq_false_iff, Bool.or_eq_false_iff, decide_eq_true_eq, decide_eq_false_iff_not, bne_iff_ne, beq_iff_eq, reduceCtorEq, bne_eq_false_iff_eq, beq_eq_false_iff_ne, Bool.not_eq_false', Int.not_le, Int.not_lt, Bool.not_not] at hc); (skip); (try (exfalso; first | contradiction | omega)))))
    | ((with_reducible refine And.intro ?_ ?_); focus ((with_reducible show chkR _ _ _ = true); kernel_rfl))
    | ((with_reducible show callN _ _ _ _ _ _ _ _ _ _); first
      | (refine callN_q (k := 11) fnok_11 (head_p) ?_ ?_)
      | (refine callN_q (k := 13) fnok_13 (valid_p n m D hn hm hD) ?_ ?_)
      | (refine callN_q (k := 20) fnok_20 (cut_p n m D hn hm hD r R hr af haf) ?_ ?_)
      | (refine callN_q (k := 20) fnok_20 (cut_p n m D hn hm hD r R hr mo hmo) ?_ ?_)
      | (refine callN_q (k := 31) fnok_31 (cc_p n m D hn hm hD n' m' D' (by omega) hm' af haf) ?_ ?_)
      | (refine callN_q (k := 31) fnok_31 (cc_p n m D hn hm hD n' m' D' (by omega) hm' mo hmo) ?_ ?_)
      | (refine callN_q (k := 24) fnok_24 (read_p n m D hn hm hD) ?_ ?_))
    | ((with_reducible show callDN _ _ _ _ _ _ _ _ _ _ _ _ _); first
      | (refine callDN_q (k := 33) fnok_33 (with_big n' m' D' hb hm' r R) ?_ ?_)
      | (refine callDN_q (k := 12) fnok_12 (few_p n m D (n' + 1) (snocM n' m' r) (snocD n' D' R) hn (by omega) hm hmw) ?_ ?_)
      | (refine callDN_q (k := 13) fnok_13 (valid_p n m D hn hm hD) ?_ ?_))
    | ((with_reducible show callDGN _ _ _ _ _ _ _ _ _ _ _ _ _); first
      | (refine callDGN_q (k := 13) fnok_13 (fun hg => valid_p n m D hn hm hD) ?_ ?_)
      | (refine callDGN_q (k := 14) fnok_14 (fun hg => rvalid_p n m D hn hm hD) ?_ ?_))
    | ((with_reducible show callGN _ _ _ _ _ _ _ _ _ _); first
      | (refine callGN_q (k := 13) fnok_13 (fun hg => valid_p n m D hn hm hD) ?_ ?_))
    | ((fail_if_success (with_reducible show AW _ _ _ _)); simp (maxSteps := 2000000) only [go_sem, reduceIte, reduceCtorEq, Nat.reduceAdd, Nat.reduceLT, Nat.reduceLeDiff, Nat.reduceEqDiff, Nat.reduceMul, Nat.reduceSub, Nat.reduceBEq, Try.f9, fnok_11, ty_24, fnok_33, fnok_12, fnok_14, fnok_20, zc_24, fnok_24, le_22, fnok_31, of_24_0, ty_22, sl_22, ar_22, ty_25, le_25, sl_25, ar_25, ty_5, bytI, rowsI, hf, hv_, h0, h0', hq, h1, hn0, c64, c1, c2, d1, d2, d1', d2', x1, y1, g1, g2, decide_true, decide_false])
    | ((fail_if_success (with_reducible show AW _ _ _ _)); simp (disch := omega) only [seaWrap, seaDiv, seaMod])
    | ((with_reducible refine hK _ ?_); clear hK K))

set_option maxRecDepth 100000 in
set_option maxHeartbeats 4000000 in
theorem law9_11 (n : Nat) (m : Nat → Nat) (D : Nat → Nat → Int) (hn : n ≤ 9223372036854775807) (hm : ∀ i, i < n → m i ≤ 9223372036854775807) (hD : BytD D) (n' : Nat) (m' : Nat → Nat) (D' : Nat → Nat → Int) (hb : n' ≤ 5864062014800) (hm' : ∀ i, i < n' → m' i ≤ 9223372036854775807) (hD' : BytD D') (r : Nat) (R : Nat → Int) (hr : r ≤ 9223372036854775807) (hR : Byt R) (af : Int) (haf : -9223372036854775808 ≤ af ∧ af ≤ 9223372036854775807) (mo : Int) (hmo : -9223372036854775808 ≤ mo ∧ mo ≤ 9223372036854775807) (hf : fewB n m (n' + 1) (snocM n' m' r) = true) (hv_ : vB n m D = true) (h0 : (af < 0) = False) (h0' : (af > mo) = False) (hq19 : n' ≤ 19) (q : Nat) (hq : readN n m D = q) (hq5 : q ≤ 1000000) (h1 : rdE n m D = 0) (hn0 : ((n : Int) == 0) = false) (hn3 : 3 ≤ n) (hn17 : n ≤ 17) (c1 : cutE n m D r af = 17) (c2 : cutE n m D r mo = 17) (d1 : cmpE n m D n' m' af = 17) (d2 : cmpE n m D n' m' mo = 17)  : CallsP Try.prog 9 [.agg [.lst 1 (n) (rowsI (m) (D))], .one (.lst 1 (r) (bytI (R))), .one (.lst 1 (n') (rowsI (m') (D'))), .one (.g (.int .i64 (af))), .one (.g (.int .i64 (mo)))] (.t (.one (.g (.bool (true))))) := by
  have hn' : n' ≤ 9223372036854775807 := by omega
  have hmw : ∀ i, i < n' + 1 → snocM n' m' r i ≤ 9223372036854775807 := fun i hi => by unfold snocM; split; exact hm' i (by assumption); exact hr
  refine CallsP_of Try.func9 rfl (by rw [Try.ntmps9]; simp) ?_
  simp only [Try.ntmps9, List.map_cons, List.map_nil, PT.tv, argEnv, Nat.zero_add, Nat.reduceAdd]
  repeat' (first
    | (with_reducible refine callDGK_f0 ?_)
    | (with_reducible refine callGK_f0 ?_)
    | ((with_reducible show AW _ _ _ _); first
      | (with_reducible refine AW_seq_k fun K hK => ?_)
      | (with_reducible refine AW_skip ?_)
      | (with_reducible refine AW_exit ?_)
      | (with_reducible refine AW_ret ?_)
      | (with_reducible refine AW_condI ?_)
      | (with_reducible refine AW_block ?_)
      | ((with_reducible show AW _ (Code.region _ _ _) _ _); first
          | (with_reducible refine AW_regionP 0 [0, 1, 2, 3, 4] ?_)
          | (with_reducible refine AW_regionP 1 [1, 2, 3, 4, 5] ?_)
          | ((with_reducible refine AW_prune (c := Code.region 2 _ true) [1, 2, 3, 4, 5, 11] ?_); (with_reducible refine AW_regionD ?_ ?_ ?_ ?_); (focus kernel_rfl); (focus kernel_rfl); (focus kernel_rfl))
          | (with_reducible refine AW_regionP 3 [11] ?_)
          | (with_reducible refine AW_regionP 4 [1, 2, 3, 4, 5, 11] ?_)
          | (with_reducible refine AW_regionP 5 [1, 2, 3, 4, 5, 11, 12, 13] ?_)
          | (with_reducible refine AW_regionP 6 [2, 3, 4, 5, 11, 12, 13, 14, 15] ?_)
          | (with_reducible refine AW_regionP 7 [2, 3, 4, 5, 11, 12, 13, 14, 15, 16] ?_)
          | (with_reducible refine AW_regionP 8 [2, 3, 4, 5, 11, 12, 14, 15, 16] ?_)
          | (with_reducible refine AW_regionP 9 [2, 3, 4, 5, 11, 12, 14, 15, 16, 18, 19] ?_)
          | (with_reducible refine AW_regionP 10 [2, 3, 4, 5, 11, 12, 14, 15, 16, 18, 19, 20, 21] ?_)
          | (with_reducible refine AW_regionP 11 [2, 3, 4, 5, 11, 12, 14] ?_)
          | (with_reducible refine AW_regionP 12 [2, 4, 5, 11, 12, 13, 14] ?_)
          | (with_reducible refine AW_regionP 13 [5, 11, 12, 13, 14, 15] ?_)
          | (with_reducible refine AW_regionP 14 [11, 13, 15] ?_)
          | ((with_reducible refine AW_prune (c := Code.region 15 _ true) [5, 11, 12, 14, 15] ?_); (with_reducible refine AW_regionD ?_ ?_ ?_ ?_); (focus kernel_rfl); (focus kernel_rfl); (focus kernel_rfl))))
    | ((first | (with_reducible refine And.intro ?_ ?_) | (with_reducible refine Need.mk ?_)); focus (first | exact True.intro | (with_reducible assumption) | omega | (refine ⟨?_, ?_⟩ <;> omega) | (intro _; first | exact True.intro | (with_reducible assumption) | omega) | (intros; (repeat' (first | exact True.intro | omega | (with_reducible assumption) | (with_reducible refine And.intro ?_ ?_))); done) | (simp (disch := omega) only [Bool.and_eq_true, Bool.or_eq_true, decide_eq_true_eq, bne_iff_ne, ne_eq] at *; first | done | omega | (intros; omega)) | (simp; done) | (simp; omega) | (simp +contextual; done) | (intro h; rw [h]; rfl) | (intros; simp_all; done)))
    | (with_reducible refine retK_n ?_)
    | (with_reducible refine retK_n' ?_)
    | (with_reducible refine retH_n rfl rfl rfl ?_)
    | (with_reducible refine retH_n' rfl rfl rfl ?_)
    | (with_reducible refine retO_n ?_ ?_)
    | (with_reducible refine retO_n' ?_ ?_)
    | ((with_reducible show condN _ _ _ _ _ _); first
      | ((with_reducible refine condN_t ?_ ?_) <;> (intro hc; (try simp only [Bool.and_eq_true, Bool.or_eq_true, Bool.not_eq_true', Bool.and_eq_false_iff, Bool.or_eq_false_iff, decide_eq_true_eq, decide_eq_false_iff_not, bne_iff_ne, beq_iff_eq, reduceCtorEq, bne_eq_false_iff_eq, beq_eq_false_iff_ne, Bool.not_eq_false', Int.not_le, Int.not_lt, Bool.not_not] at hc); (skip); (try (exfalso; first | contradiction | omega)))))
    | ((with_reducible refine And.intro ?_ ?_); focus ((with_reducible show chkR _ _ _ = true); kernel_rfl))
    | ((with_reducible show callN _ _ _ _ _ _ _ _ _ _); first
      | (refine callN_q (k := 11) fnok_11 (head_p) ?_ ?_)
      | (refine callN_q (k := 13) fnok_13 (valid_p n m D hn hm hD) ?_ ?_)
      | (refine callN_q (k := 20) fnok_20 (cut_p n m D hn hm hD r R hr af haf) ?_ ?_)
      | (refine callN_q (k := 20) fnok_20 (cut_p n m D hn hm hD r R hr mo hmo) ?_ ?_)
      | (refine callN_q (k := 31) fnok_31 (cc_p n m D hn hm hD n' m' D' (by omega) hm' af haf) ?_ ?_)
      | (refine callN_q (k := 31) fnok_31 (cc_p n m D hn hm hD n' m' D' (by omega) hm' mo hmo) ?_ ?_)
      | (refine callN_q (k := 24) fnok_24 (read_p n m D hn hm hD) ?_ ?_))
    | ((with_reducible show callDN _ _ _ _ _ _ _ _ _ _ _ _ _); first
      | (refine callDN_q (k := 33) fnok_33 (with_big n' m' D' hb hm' r R) ?_ ?_)
      | (refine callDN_q (k := 12) fnok_12 (few_p n m D (n' + 1) (snocM n' m' r) (snocD n' D' R) hn (by omega) hm hmw) ?_ ?_)
      | (refine callDN_q (k := 13) fnok_13 (valid_p n m D hn hm hD) ?_ ?_))
    | ((with_reducible show callDGN _ _ _ _ _ _ _ _ _ _ _ _ _); first
      | (refine callDGN_q (k := 13) fnok_13 (fun hg => valid_p n m D hn hm hD) ?_ ?_)
      | (refine callDGN_q (k := 14) fnok_14 (fun hg => rvalid_p n m D hn hm hD) ?_ ?_))
    | ((with_reducible show callGN _ _ _ _ _ _ _ _ _ _); first
      | (refine callGN_q (k := 13) fnok_13 (fun hg => valid_p n m D hn hm hD) ?_ ?_))
    | ((fail_if_success (with_reducible show AW _ _ _ _)); simp (maxSteps := 2000000) only [go_sem, reduceIte, reduceCtorEq, Nat.reduceAdd, Nat.reduceLT, Nat.reduceLeDiff, Nat.reduceEqDiff, Nat.reduceMul, Nat.reduceSub, Nat.reduceBEq, Try.f9, fnok_11, ty_24, fnok_33, fnok_12, fnok_14, fnok_20, zc_24, fnok_24, le_22, fnok_31, of_24_0, ty_22, sl_22, ar_22, ty_25, le_25, sl_25, ar_25, ty_5, bytI, rowsI, hf, hv_, h0, h0', hq, h1, hn0, c64, c1, c2, d1, d2, decide_true, decide_false])
    | ((fail_if_success (with_reducible show AW _ _ _ _)); simp (disch := omega) only [seaWrap, seaDiv, seaMod])
    | ((with_reducible refine hK _ ?_); clear hK K))
  all_goals rfl

theorem law9 (n : Nat) (m : Nat → Nat) (D : Nat → Nat → Int) (hn : n ≤ 9223372036854775807) (hm : ∀ i, i < n → m i ≤ 9223372036854775807) (hD : BytD D) (n' : Nat) (m' : Nat → Nat) (D' : Nat → Nat → Int) (hb : n' ≤ 5864062014800) (hm' : ∀ i, i < n' → m' i ≤ 9223372036854775807) (hD' : BytD D') (r : Nat) (R : Nat → Int) (hr : r ≤ 9223372036854775807) (hR : Byt R) (af : Int) (haf : -9223372036854775808 ≤ af ∧ af ≤ 9223372036854775807) (mo : Int) (hmo : -9223372036854775808 ≤ mo ∧ mo ≤ 9223372036854775807) : CallsP Try.prog 9 [.agg [.lst 1 (n) (rowsI (m) (D))], .one (.lst 1 (r) (bytI (R))), .one (.lst 1 (n') (rowsI (m') (D'))), .one (.g (.int .i64 (af))), .one (.g (.int .i64 (mo)))] (.t (.one (.g (.bool true)))) := by
  cases hf : fewB n m (n' + 1) (snocM n' m' r) with
  | false => exact law9_b n m D hn hm hD n' m' D' hb hm' hD' r R hr hR af haf mo hmo (Or.inl hf)
  | true =>
    cases hv_ : vB n m D with
    | false => exact law9_b n m D hn hm hD n' m' D' hb hm' hD' r R hr hR af haf mo hmo (Or.inr (Or.inl hv_))
    | true =>
      by_cases h0 : af < 0
      · exact law9_b n m D hn hm hD n' m' D' hb hm' hD' r R hr hR af haf mo hmo (Or.inr (Or.inr (Or.inl h0)))
      by_cases h0' : mo < af
      · exact law9_b n m D hn hm hD n' m' D' hb hm' hD' r R hr hR af haf mo hmo (Or.inr (Or.inr (Or.inr h0')))
      replace h0' : ¬ af > mo := h0'
      obtain ⟨hn17, hq19, hr6, hl⟩ := few_w hf
      obtain ⟨k, hs, hk1, hk, hok⟩ := vB_parts hD hv_
      have h3 := hs.h3
      have hh : hlf n ≤ 8 := by unfold hlf; omega
      have hlm : ∀ i, i < n' → m' i ≤ 65535 := fun i hi => by have := hl i hi; omega
      have hle := readN_le (n := n) (m := m) (D := D)
      have h1 := rdE_has hv_
      have hn0 : ((n : Int) == 0) = false := beq_eq_false_iff_ne.2 (by omega)
      obtain ⟨c1, c1'⟩ := cut_val (n := n) (m := m) (D := D) (r := r) (af := af) hv_ (by omega) (by omega)
      obtain ⟨c2, c2'⟩ := cut_val (n := n) (m := m) (D := D) (r := r) (af := mo) hv_ (by omega) (by omega)
      obtain ⟨d1, d1'⟩ := cmp_val (n := n) (m := m) (D := D) (n' := n') (m' := m') (af := af) hv_ hlm (by omega)
      obtain ⟨d2, d2'⟩ := cmp_val (n := n) (m := m) (D := D) (n' := n') (m' := m') (af := mo) hv_ hlm (by omega)
      have hE1 : BytD (apH n D r R af.toNat) := apH_b hD hR
      have hE2 : BytD (apH n D r R mo.toNat) := apH_b hD hR
      have two : fitB n D r = true → vB n c64 (apH n D r R af.toNat) = true ∧ vB n c64 (apH n D r R mo.toNat) = true ∧ readN n c64 (apH n D r R af.toNat) ≤ readN n c64 (apH n D r R mo.toNat) ∧ readN n c64 (apH n D r R mo.toNat) ≤ readN n m D + 1 := fun hfit => by
        by_cases l1 : lim n D r < af.toNat
        · have n1 := cut_new hD R (by omega) hv_ hfit l1
          have n2 := cut_new hD R (by omega) hv_ hfit (show lim n D r < mo.toNat by omega)
          exact ⟨n1.v, n2.v, by rw [n1.c, n2.c]; exact Nat.le_refl _, by rw [n2.c]; exact Nat.le_refl _⟩
        · have n1 := cut_old hD R hv_ hfit (show af.toNat ≤ lim n D r by omega)
          by_cases l2 : lim n D r < mo.toNat
          · have n2 := cut_new hD R (by omega) hv_ hfit l2
            exact ⟨n1.v, n2.v, by rw [n1.c, n2.c]; exact Nat.le_succ _, by rw [n2.c]; exact Nat.le_refl _⟩
          · have n2 := cut_old hD R hv_ hfit (show mo.toNat ≤ lim n D r by omega)
            exact ⟨n1.v, n2.v, by rw [n1.c, n2.c]; exact Nat.le_refl _, by rw [n2.c]; exact Nat.le_succ _⟩
      have sw : (cmpD n D n' m' D' af.toNat 0 0 == D 0 0) = true ∨ ((cmpD n D n' m' D' af.toNat 0 0 == cmpD n D n' m' D' mo.toNat 0 0) = true ∧ (cmpD n D n' m' D' af.toNat 0 0 == D 0 0) = false) := by
        rw [cmpD_0, cmpD_0]
        by_cases l1 : hlf n * 64 < af.toNat
        · rw [if_pos l1, if_pos (show hlf n * 64 < mo.toNat by omega)]
          exact Or.inr ⟨beq_self_eq_true _, beq_eq_false_iff_ne.2 (by omega)⟩
        · rw [if_neg l1]; exact Or.inl (beq_self_eq_true _)
      cases hfit : fitB n D r with
      | true =>
        obtain ⟨a1, a2, hab, hbq⟩ := two hfit
        by_cases hfc : encP m' n' ≤ hlf n * 64
        · rcases sw with ht | ⟨hg2, ht⟩
          · exact law9_00t n m D hn hm hD n' m' D' hb hm' hD' r R hr hR af haf mo hmo hf hv_ (eq_false h0) (eq_false h0') hq19 _ rfl (by omega) h1 hn0 (by omega) hn17 (c1 hfit).1 (c1 hfit).2 (c2 hfit).1 (c2 hfit).2 _ hE1 rfl (rdE_has a1) _ hE2 rfl (rdE_has a2) _ _ rfl rfl hab hbq (eq_true (by omega)) (eq_true (by omega)) (d1 hfc).1 (d1 hfc).2 (d2 hfc).1 (d2 hfc).2 _ rfl _ rfl _ rfl (by have := hs.m 0 (by omega); omega) ht
          · exact law9_00f n m D hn hm hD n' m' D' hb hm' hD' r R hr hR af haf mo hmo hf hv_ (eq_false h0) (eq_false h0') hq19 _ rfl (by omega) h1 hn0 (by omega) hn17 (c1 hfit).1 (c1 hfit).2 (c2 hfit).1 (c2 hfit).2 _ hE1 rfl (rdE_has a1) _ hE2 rfl (rdE_has a2) _ _ rfl rfl hab hbq (eq_true (by omega)) (eq_true (by omega)) (d1 hfc).1 (d1 hfc).2 (d2 hfc).1 (d2 hfc).2 _ rfl _ rfl _ rfl (by have := hs.m 0 (by omega); omega) hg2 ht
        · exact law9_01 n m D hn hm hD n' m' D' hb hm' hD' r R hr hR af haf mo hmo hf hv_ (eq_false h0) (eq_false h0') hq19 _ rfl (by omega) h1 hn0 (by omega) hn17 (c1 hfit).1 (c1 hfit).2 (c2 hfit).1 (c2 hfit).2 _ hE1 rfl (rdE_has a1) _ hE2 rfl (rdE_has a2) _ _ rfl rfl hab hbq (eq_true (by omega)) (eq_true (by omega)) (d1' hfc) (d2' hfc)
      | false =>
        by_cases hfc : encP m' n' ≤ hlf n * 64
        · rcases sw with ht | ⟨hg2, ht⟩
          · exact law9_10t n m D hn hm hD n' m' D' hb hm' hD' r R hr hR af haf mo hmo hf hv_ (eq_false h0) (eq_false h0') hq19 _ rfl (by omega) h1 hn0 (by omega) hn17 (c1' hfit) (c2' hfit) (d1 hfc).1 (d1 hfc).2 (d2 hfc).1 (d2 hfc).2 _ rfl _ rfl _ rfl (by have := hs.m 0 (by omega); omega) ht
          · exact law9_10f n m D hn hm hD n' m' D' hb hm' hD' r R hr hR af haf mo hmo hf hv_ (eq_false h0) (eq_false h0') hq19 _ rfl (by omega) h1 hn0 (by omega) hn17 (c1' hfit) (c2' hfit) (d1 hfc).1 (d1 hfc).2 (d2 hfc).1 (d2 hfc).2 _ rfl _ rfl _ rfl (by have := hs.m 0 (by omega); omega) hg2 ht
        · exact law9_11 n m D hn hm hD n' m' D' hb hm' hD' r R hr hR af haf mo hmo hf hv_ (eq_false h0) (eq_false h0') hq19 _ rfl (by omega) h1 hn0 (by omega) hn17 (c1' hfit) (c2' hfit) (d1' hfc) (d2' hfc)

end Go.Proofs.Ytifoncmlelinjaa
