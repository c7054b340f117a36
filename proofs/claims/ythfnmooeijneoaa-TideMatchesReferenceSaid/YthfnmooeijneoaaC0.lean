/- C0: walks on abstract states. -/
import Derived.Test.YthfnmooeijneoaaC
set_option linter.unusedVariables false
set_option linter.unusedSimpArgs false
namespace Go.Proofs.Ythfnmooeijneoaa
open Go.RowKit Go.Sea
attribute [local go_sem] callK_N gf gk gdrop lkL setL lsF ltAll rdyL bodyF roundQ roundS loopQ loopS jumpOf inLs yV yA bAV zipPut purgeG List.tail_cons Option.isNone_none Option.isNone_some callGK_f callDK_f callDGK_f retN retHN blockA arun_nil arun_plain arun_guard plainF guardF guardB arunD_nil arunD_plain arunD_guard plainDF guardDF guardDB AS.ent Eff.noApp Eff.tgt ftF AV.refs TV.refs CV.refs LV.refs Op.operands Call.operands List.append_toArray List.push_toArray List.flatMap_cons List.flatMap_nil List.toList_toArray Option.toArray List.reverse_cons List.reverse_nil opF AS.ev constA lk AS.get AV.tv AV.nd AS.eff AS.put argEnv PT.tv PV.av AV.mbOf hset hget TV.cells dstOk thenA gB isB toB TV.bool? TV.int? intF loadF storeF fieldF indexF lenF sliceF optI appF minmaxF ipCells fillF repC partsF lvsF TV.lv LV.tv purgeE purgeC purgeH AV.purge CV.purge AV.has TV.has CV.has LV.has calleeF argsF tvsF toPT toIV toIVs toPTs toPV civ isIv iA bA List.map_cons List.map_nil List.length_nil List.length_cons List.getElem?_cons_zero List.getElem?_cons_succ List.getElem?_nil Option.getD_some Option.getD_none Option.bind_some Option.bind_none List.take_succ_cons List.take_zero List.drop_succ_cons List.drop_zero List.take_nil List.drop_nil List.cons_append List.nil_append List.append_nil List.getD_cons_zero List.getD_cons_succ Option.map_some Option.map_none Option.isSome_some Option.isSome_none List.size_toArray List.any_cons List.any_nil List.mem_cons if_true if_false ite_true ite_false cond_true cond_false Nat.zero_add Nat.add_zero Nat.sub_zero Nat.le_refl Nat.zero_mul Nat.mul_zero Nat.one_mul Nat.mul_one Int.toNat_zero Int.toNat_natCast Bool.or_false Bool.false_or Bool.or_true Bool.true_or Bool.and_true Bool.true_and Bool.and_false Bool.false_and beq_self_eq_true beq_true beq_false Bool.not_true Bool.not_false and_true true_and and_false false_and and_self imp_self Bool.cond_false_right Bool.cond_true_left implies_true forall_const true_implies false_implies Option.some.injEq Prod.mk.injEq ne_eq not_false_eq_true not_true_eq_false eq_self Nat.lt_irrefl Nat.not_lt_zero boF seaMin seaMax seaNat1 seaNat2 Value.bool.injEq Value.int.injEq srcF lstC TV.dp IV.eqv PT.eqv PV.eqv All2 keepE hupd callZ_N AS.frz AS.frzW frzs frzsOk frzOk frzE frzA frzT frzC frzG frzH hdel cmpS eqF eqC gvs eqVs eqV decide_true resF tupA inlQ okL okGL okG nextL wkH wkC wkV nilA nilC AV.ok TV.ok CV.ok LV.ok okB forall_eq_or_imp forall_eq List.not_mem_nil List.mem_singleton true_or or_true or_false false_or exists_prop AV.t.injEq TV.one.injEq CV.iv.injEq IV.g.injEq TV.agg.injEq List.cons.injEq
theorem fnok_80 : fnOk Try.prog 80 = true := by kernel_rfl
theorem fo_68 : fieldsOk Try.prog 68 = true := by kernel_rfl
theorem pl_68_0 : placeF Try.prog 68 0 = some (0, 2) := by kernel_rfl
theorem pl_68_1 : placeF Try.prog 68 1 = some (2, 2) := by kernel_rfl
theorem zc_22 : zeroC Try.prog 22 = some [.iv (.g (.slice none 0 0))] := by kernel_rfl

set_option maxRecDepth 100000 in
set_option maxHeartbeats 4000000 in
theorem windows_1 (s st : Int) (n : Nat) (lo hi : Nat → Int) (need : Int) (h : (tval s st n lo hi && nd need) = false) : CallsP Try.prog 15 [tideP s st n lo hi, .one (.g (.int .i64 (need)))] (.tup [.one (.lst 2 0 (spanF (L1 []) (L2 []))), .one (.g (.int .i64 (1)))]) := by
  refine CallsP_of Try.func15 rfl (by rw [Try.ntmps15]; simp) ?_
  simp only [Try.ntmps15, List.map_cons, List.map_nil, PT.tv, argEnv, Nat.zero_add, Nat.reduceAdd]
  repeat' (first
    | (with_reducible refine AW_seq_k fun K hK => ?_)
    | ((first | (with_reducible refine And.intro ?_ ?_) | (with_reducible refine Need.mk ?_)); focus (first | exact True.intro | (with_reducible assumption) | omega | (refine ⟨?_, ?_⟩ <;> omega) | (intro _; first | exact True.intro | (with_reducible assumption) | omega) | (intros; (repeat' (first | exact True.intro | omega | (with_reducible assumption) | (with_reducible refine And.intro ?_ ?_))); done) | (simp (disch := omega) only [Bool.and_eq_true, Bool.or_eq_true, decide_eq_true_eq, bne_iff_ne, ne_eq] at *; first | done | omega | (intros; omega)) | (simp; done) | (simp; omega) | (simp +contextual; done) | (intro h; rw [h]; rfl) | (intros; simp_all; done)))
    | (with_reducible refine AW_skip ?_)
    | (with_reducible refine AW_exit ?_)
    | (with_reducible refine AW_ret ?_)
    | (with_reducible refine retK_n ?_)
    | (with_reducible refine retK_n' ?_)
    | (with_reducible refine retH_n rfl rfl rfl ?_)
    | (with_reducible refine retH_n' rfl rfl rfl ?_)
    | (with_reducible refine AW_condI ?_)
    | (with_reducible refine AW_block ?_)
    | ((with_reducible refine condN_t ?_ ?_) <;> (intro hc; (try simp only [Bool.and_eq_true, Bool.or_eq_true, Bool.not_eq_true', Bool.and_eq_false_iff, Bool.or_eq_false_iff, decide_eq_true_eq, decide_eq_false_iff_not, bne_iff_ne, beq_iff_eq, reduceCtorEq, bne_eq_false_iff_eq, beq_eq_false_iff_ne, Bool.not_eq_false', Int.not_le, Int.not_lt, Bool.not_not] at hc); (try (exfalso; first | contradiction | omega))))
    | (with_reducible refine AW_regionP 0 [0, 1, 22] ?_)
    | (with_reducible refine AW_regionP 1 [2, 3, 22] ?_)
    | (with_reducible refine AW_regionP 2 [] ?_)
    | (with_reducible refine AW_regionP 3 [2, 3, 22] ?_)
    | (with_reducible refine AW_regionP 4 [2, 3, 6, 22] ?_)
    | (with_reducible refine AW_regionP 5 [3, 6, 22] ?_)
    | (with_reducible refine AW_regionP 6 [3, 6, 7, 22] ?_)
    | (with_reducible refine AW_regionP 7 [3, 6, 7, 22] ?_)
    | ((with_reducible refine AW_prune (c := Code.region 8 _ true) [3, 6, 7, 8, 22] ?_); (with_reducible refine AW_regionD ?_ ?_ ?_ ?_); (focus kernel_rfl); (focus kernel_rfl); (focus kernel_rfl))
    | (with_reducible refine AW_regionP 9 [3, 6, 7, 8, 22] ?_)
    | (with_reducible refine AW_regionP 10 [3, 6, 7, 22] ?_)
    | (with_reducible refine AW_regionP 11 [6] ?_)
    | ((with_reducible refine And.intro ?_ ?_); focus ((with_reducible show chkR _ _ _ = true); kernel_rfl))
    | (refine callN_q (k := 18) fnok_18 (valid_p _ _ _ _ _) ?_ ?_)
    | (refine callN_q (k := 54) fnok_54 (join_ok _ _ _ _ (by omega) (by omega) (by omega) (by omega) (by omega) (by omega)) ?_ ?_)
    | (refine callDN_q (k := 54) fnok_54 (join_ok _ _ _ _ (by omega) (by omega) (by omega) (by omega) (by omega) (by omega)) ?_ ?_)
    | (refine callDGN_q (k := 54) fnok_54 (fun hg => join_ok _ _ _ _ (by omega) (by omega) (by omega) (by omega) (by omega) (by omega)) ?_ ?_)
    | (refine callGN_q (k := 54) fnok_54 (fun hg => join_ok _ _ _ _ (by omega) (by omega) (by omega) (by omega) (by omega) (by omega)) ?_ ?_)
    | ((fail_if_success (with_reducible show AW _ _ _ _)); simp (maxSteps := 2000000) only [go_sem, reduceIte, reduceCtorEq, Nat.reduceAdd, Nat.reduceLT, Nat.reduceLeDiff, Nat.reduceEqDiff, Nat.reduceMul, Nat.reduceSub, Nat.reduceBEq, Try.f15, ty_24, fnok_18, ty_3, zc_22, fnok_48, zc_68, ty_68, of_68_1, of_31_0, ty_22, le_22, sl_22, ar_22, of_31_1, of_68_0, ty_31, zc_31])
    | ((fail_if_success (with_reducible show AW _ _ _ _)); simp (disch := omega) only [seaWrap, seaDiv, seaMod])
    | ((with_reducible refine hK _ ?_); clear hK K))
  all_goals (first | (simp_all [nd]; done) | (simp_all [nd]; omega))

set_option maxRecDepth 100000 in
set_option maxHeartbeats 16000000 in
theorem windows_0 (s st : Int) (n : Nat) (lo hi : Nat → Int) (need : Int) (hv0 : tval s st n lo hi = true) (hn0 : nd need = true) (hnd1 : -1000000000000 ≤ need) (hnd2 : need ≤ 1000000000000) : CallsP Try.prog 15 [tideP s st n lo hi, .one (.g (.int .i64 (need)))] (.tup [.one (.lst 2 (win need (strs s st lo hi n)).length (spanF (L1 (win need (strs s st lo hi n))) (L2 (win need (strs s st lo hi n))))), .one (.g (.int .i64 (0)))]) := by
  have hv := tval_tv hv0
  have hsx : True := trivial
  refine CallsP_of Try.func15 rfl (by rw [Try.ntmps15]; simp) ?_
  simp only [Try.ntmps15, List.map_cons, List.map_nil, PT.tv, argEnv, Nat.zero_add, Nat.reduceAdd]
  repeat' (first
    | (with_reducible refine callDGK_f0 ?_)
    | (with_reducible refine AW_seq_k fun K hK => ?_)
    | ((first | (with_reducible refine And.intro ?_ ?_) | (with_reducible refine Need.mk ?_)); focus (first | exact True.intro | (with_reducible assumption) | omega | (refine ⟨?_, ?_⟩ <;> omega) | (intro _; first | exact True.intro | (with_reducible assumption) | omega) | (intros; (repeat' (first | exact True.intro | omega | (with_reducible assumption) | (with_reducible refine And.intro ?_ ?_))); done) | (simp (disch := omega) only [Bool.and_eq_true, Bool.or_eq_true, decide_eq_true_eq, bne_iff_ne, ne_eq] at *; first | done | omega | (intros; omega)) | (simp; done) | (simp; omega) | (simp +contextual; done) | (intro h; rw [h]; rfl) | (intros; simp_all; done)))
    | (with_reducible refine AW_skip ?_)
    | (with_reducible refine AW_exit ?_)
    | (with_reducible refine AW_ret ?_)
    | (with_reducible refine retK_n ?_)
    | (with_reducible refine retK_n' ?_)
    | (with_reducible refine retH_n rfl rfl rfl ?_)
    | (with_reducible refine retH_n' rfl rfl rfl ?_)
    | (with_reducible refine AW_condI ?_)
    | (with_reducible refine AW_block ?_)
    | ((with_reducible refine condN_t ?_ ?_) <;> (intro hc; (try simp only [Bool.and_eq_true, Bool.or_eq_true, Bool.not_eq_true', Bool.and_eq_false_iff, Bool.or_eq_false_iff, decide_eq_true_eq, decide_eq_false_iff_not, bne_iff_ne, beq_iff_eq, reduceCtorEq, bne_eq_false_iff_eq, beq_eq_false_iff_ne, Bool.not_eq_false', Int.not_le, Int.not_lt, Bool.not_not] at hc); (try (exfalso; first | contradiction | omega))))
    | (with_reducible refine AW_regionP 0 [0, 1, 22] ?_)
    | (with_reducible refine AW_regionP 1 [0, 1, 2, 3, 9, 10, 11, 22] ?_)
    | (with_reducible refine AW_regionP 2 [0, 1, 9, 10, 11] ?_)
    | (with_reducible refine AW_regionP 3 [0, 1, 2, 3, 4, 9, 10, 11, 22] ?_)
    | (with_reducible refine AW_regionP 4 [0, 1, 2, 3, 4, 5, 6, 9, 10, 11, 22] ?_)
    | (with_reducible refine AW_regionP 5 [3, 6, 22] ?_)
    | ((with_reducible refine AW_prune (c := Code.region 5 _ true) [0, 1, 3, 4, 5, 9, 10, 11] ?_); (with_reducible refine AW_regionD ?_ ?_ ?_ ?_); (focus kernel_rfl); (focus kernel_rfl); (focus kernel_rfl))
    | (with_reducible refine AW_regionP 6 [0, 1, 3, 4, 5, 6, 7, 9, 10, 11, 22] ?_)
    | (with_reducible refine AW_regionP 7 [0, 1, 3, 4, 5, 6, 7, 9, 10, 11, 22] ?_)
    | (with_reducible refine AW_regionP 8 [0, 1, 9, 10, 11] ?_)
    | ((with_reducible refine AW_prune (c := Code.region 8 _ true) [3, 6, 7, 8, 22] ?_); (with_reducible refine AW_regionD ?_ ?_ ?_ ?_); (focus kernel_rfl); (focus kernel_rfl); (focus kernel_rfl))
    | (with_reducible refine AW_regionP 9 [3, 6, 7, 8, 22] ?_)
    | (with_reducible refine AW_regionP 10 [3, 6, 7, 22] ?_)
    | (with_reducible refine AW_regionP 11 [6] ?_)
    | ((with_reducible refine And.intro ?_ ?_); focus ((with_reducible show chkR _ _ _ = true); kernel_rfl))
    | (refine callN_q (k := 18) fnok_18 (valid_p _ _ _ _ _) ?_ ?_)
    | (refine callN_q (k := 54) fnok_54 (join_ok _ _ _ _ (by omega) (by omega) (by omega) (by omega) (by omega) (by omega)) ?_ ?_)
    | (refine callDN_q (k := 54) fnok_54 (join_ok _ _ _ _ (by omega) (by omega) (by omega) (by omega) (by omega) (by omega)) ?_ ?_)
    | ((with_reducible refine AW_loopQ (c := (Code.seq (Code.region 1 _ _) _)) (ι := Nat) [0, 1, 9, 10] (fun k => [(11, iA .i64 (k : Int))]) (fun k => [(2, [.slc 4 0 (win need (strs s st lo hi k)).length 2]), (4, rowW (win need (strs s st lo hi k)))]) (fun k => k ≤ n) (fun k => n - k) 0 ?lg1 ?l11 ?l21 ?li1 ?lr1); (case' lg1 => rintro k _); (case' li1 => try (first | trivial | omega | (simp; done) | (simp; omega))); (case' lr1 => rintro k hk KR hR1; (obtain ⟨ws, hW, hw1, hw2⟩ := wn_facts hv need hk); (rcases round_t hv hk with hge | ⟨⟨hlt, hn2, hs0, hst0, hst1⟩, ⟨p1, p2, p3⟩, ⟨q1, q2, q3⟩, ⟨r1, r2, ⟨r3, r4, r5⟩, r6⟩ | r1⟩ <;> simp only [hW]); (all_goals (have hsx0 := hsx; clear hsx; rcases wsx hw1 with ⟨hz, hsx⟩ | ⟨hz, hsx⟩)); simp only [keepE, hupd, hset, lk, if_true, if_false, Nat.reduceEqDiff, reduceIte, List.cons_append, List.nil_append, spanF0, spanF1, hv0, hsx, decide_true, decide_false, rowW_push, rowW_purge, rowW_last_push, rowW_setP, rowW_len, List.length_append, List.length_singleton, maxLen]))
    | ((with_reducible refine hR1 _ (k + 1) ?_); (try clear hR1 KR))
    | ((with_reducible refine Told.mk ?_); simp only [go_sem, reduceIte, reduceCtorEq, Nat.reduceAdd, Nat.reduceLT, Nat.reduceLeDiff, Nat.reduceEqDiff, Nat.reduceMul, Nat.reduceSub, Nat.reduceBEq, spanF0, spanF1, hv0, hsx, decide_true, decide_false, rowW_push, rowW_purge, rowW_last_push, rowW_setP, rowW_len, List.length_append, List.length_singleton, maxLen] <;> (first | exact True.intro | ((repeat' (first | exact True.intro | omega | (with_reducible assumption) | (with_reducible refine And.intro ?_ ?_) | (exact wkC_eq rfl (rowW_iv _)) | ((first | rw [strs_mid (by assumption) (by assumption)] | rw [strs_row (by assumption)]); (simp (disch := omega) only [win_snoc, hW, addW_skip, addW_set, addW_setS, addW_setP, addW_push, List.length_append, List.length_singleton, setLast_len, seaWrap])) | (simp (disch := omega) only [seaWrap, Int.natCast_add, Int.cast_ofNat_Int, setLast_len, List.length_append, List.length_singleton]))); done) | (simp [win, strs, rowW, wkC]) | (refine Stuck.out ?_)))
    | ((fail_if_success (with_reducible show AW _ _ _ _)); simp (maxSteps := 2000000) only [go_sem, reduceIte, reduceCtorEq, Nat.reduceAdd, Nat.reduceLT, Nat.reduceLeDiff, Nat.reduceEqDiff, Nat.reduceMul, Nat.reduceSub, Nat.reduceBEq, Try.f15, Try.f80, Try.f48, ty_24, fnok_18, ty_3, zc_22, fnok_48, zc_68, ty_68, of_68_1, of_31_0, ty_22, le_22, sl_22, ar_22, of_31_1, of_68_0, ty_31, zc_31, of_24_2, of_24_0, of_24_1, fnok_54, fo_31, pl_31_0, pl_31_1, fo_68, pl_68_0, pl_68_1, spanF0, spanF1, hv0, hsx, decide_true, decide_false, rowW_push, rowW_purge, rowW_last_push, rowW_setP, rowW_len, List.length_append, List.length_singleton, maxLen])
    | ((fail_if_success (with_reducible show AW _ _ _ _)); simp (disch := omega) only [seaWrap, seaDiv, seaMod, rowW_last, rowW_last_set, rowW_setL, rowW_setS, setLast_len])
    | ((refine AW_rangeFuncH (k := 80) rfl Try.func80 rfl fnok_80 (by rw [Try.ntmps80]; simp) ?_ ?_ (fun l hlne A B hA hB => ?_)); (focus (simp (maxSteps := 2000000) only [go_sem, reduceIte, reduceCtorEq, Nat.reduceAdd, Nat.reduceLT, Nat.reduceLeDiff, Nat.reduceEqDiff, Nat.reduceMul, Nat.reduceSub, Nat.reduceBEq, Try.f15, Try.f80, Try.f48, ty_24, fnok_18, ty_3, zc_22, fnok_48, zc_68, ty_68, of_68_1, of_31_0, ty_22, le_22, sl_22, ar_22, of_31_1, of_68_0, ty_31, zc_31, of_24_2, of_24_0, of_24_1, fnok_54, fo_31, pl_31_0, pl_31_1, fo_68, pl_68_0, pl_68_1, spanF0, spanF1, hv0, hsx, decide_true, decide_false, rowW_push, rowW_purge, rowW_last_push, rowW_setP, rowW_len, List.length_append, List.length_singleton, maxLen]; try exact True.intro)); (focus (simp (maxSteps := 2000000) only [go_sem, reduceIte, reduceCtorEq, Nat.reduceAdd, Nat.reduceLT, Nat.reduceLeDiff, Nat.reduceEqDiff, Nat.reduceMul, Nat.reduceSub, Nat.reduceBEq, Try.f15, Try.f80, Try.f48, ty_24, fnok_18, ty_3, zc_22, fnok_48, zc_68, ty_68, of_68_1, of_31_0, ty_22, le_22, sl_22, ar_22, of_31_1, of_68_0, ty_31, zc_31, of_24_2, of_24_0, of_24_1, fnok_54, fo_31, pl_31_0, pl_31_1, fo_68, pl_68_0, pl_68_1, spanF0, spanF1, hv0, hsx, decide_true, decide_false, rowW_push, rowW_purge, rowW_last_push, rowW_setP, rowW_len, List.length_append, List.length_singleton, maxLen]; try exact True.intro)); simp only [Try.ntmps80, List.map_cons, List.map_nil, LV.tv, argEnv, yV, Nat.zero_add, Nat.reduceAdd]; clear hlne)
    | ((refine callN_i (k := 48) Try.func48 rfl fnok_48 (by rw [Try.ntmps48]; simp) ?_ ?_ (fun K hK => ?_)); (focus (first | exact True.intro | (with_reducible assumption) | omega | (refine ⟨?_, ?_⟩ <;> omega) | (intro _; first | exact True.intro | (with_reducible assumption) | omega) | (intros; (repeat' (first | exact True.intro | omega | (with_reducible assumption) | (with_reducible refine And.intro ?_ ?_))); done) | (simp (disch := omega) only [Bool.and_eq_true, Bool.or_eq_true, decide_eq_true_eq, bne_iff_ne, ne_eq] at *; first | done | omega | (intros; omega)) | (simp; done) | (simp; omega) | (simp +contextual; done) | (intro h; rw [h]; rfl) | (intros; simp_all; done))); (focus (simp [lsF])); simp only [Try.ntmps48, List.map_cons, List.map_nil, List.nil_append, List.cons_append, List.append_nil, LV.tv, argEnv, Nat.zero_add, Nat.reduceAdd])
    | (with_reducible refine AW_eq (by assumption) ?_)
    | ((with_reducible show callN _ _ _ _ _ _ (.yld _) _ _ _); (refine callN_y (by simp only [lkL, if_true]; exact rfl) ?_ (by simp) ?_ ?_ (fun K hK => ?_)); (focus (first | exact True.intro | (with_reducible assumption) | omega | (refine ⟨?_, ?_⟩ <;> omega) | (intro _; first | exact True.intro | (with_reducible assumption) | omega) | (intros; (repeat' (first | exact True.intro | omega | (with_reducible assumption) | (with_reducible refine And.intro ?_ ?_))); done) | (simp (disch := omega) only [Bool.and_eq_true, Bool.or_eq_true, decide_eq_true_eq, bne_iff_ne, ne_eq] at *; first | done | omega | (intros; omega)) | (simp; done) | (simp; omega) | (simp +contextual; done) | (intro h; rw [h]; rfl) | (intros; simp_all; done))); (focus (simp [ltAll])); (focus (simp [lsF])); simp only [zipPut, gf, if_true, Nat.reduceAdd])
    | ((with_reducible refine hK _ ?_); clear hK K)
    | (with_reducible apply_assumption -exfalso))
  all_goals try ((obtain rfl : k = n := (by omega)); subst hW; exact ⟨fun c hc => rowW_iv _ c hc, rfl, fun i o hi ho => rowW_eqv2 _ i o hi ho⟩)

end Go.Proofs.Ythfnmooeijneoaa
