/- B0: walks on abstract states. -/
import Derived.Test.YthfnmooeijneoaaB
set_option linter.unusedVariables false
set_option linter.unusedSimpArgs false
namespace Go.Proofs.Ythfnmooeijneoaa
open Go.RowKit Go.Sea
attribute [local go_sem] callK_N gf gk gdrop lkL setL lsF ltAll rdyL bodyF roundQ roundS loopQ loopS jumpOf inLs yV yA bAV zipPut purgeG List.tail_cons Option.isNone_none Option.isNone_some callGK_f callDK_f callDGK_f retN retHN blockA arun_nil arun_plain arun_guard plainF guardF guardB arunD_nil arunD_plain arunD_guard plainDF guardDF guardDB AS.ent Eff.noApp Eff.tgt ftF AV.refs TV.refs CV.refs LV.refs Op.operands Call.operands List.append_toArray List.push_toArray List.flatMap_cons List.flatMap_nil List.toList_toArray Option.toArray List.reverse_cons List.reverse_nil opF AS.ev constA lk AS.get AV.tv AV.nd AS.eff AS.put argEnv PT.tv PV.av AV.mbOf hset hget TV.cells dstOk thenA gB isB toB TV.bool? TV.int? intF loadF storeF fieldF indexF lenF sliceF optI appF minmaxF ipCells fillF repC partsF lvsF TV.lv LV.tv purgeE purgeC purgeH AV.purge CV.purge AV.has TV.has CV.has LV.has calleeF argsF tvsF toPT toIV toIVs toPTs toPV civ isIv iA bA List.map_cons List.map_nil List.length_nil List.length_cons List.getElem?_cons_zero List.getElem?_cons_succ List.getElem?_nil Option.getD_some Option.getD_none Option.bind_some Option.bind_none List.take_succ_cons List.take_zero List.drop_succ_cons List.drop_zero List.take_nil List.drop_nil List.cons_append List.nil_append List.append_nil List.getD_cons_zero List.getD_cons_succ Option.map_some Option.map_none Option.isSome_some Option.isSome_none List.size_toArray List.any_cons List.any_nil List.mem_cons if_true if_false ite_true ite_false cond_true cond_false Nat.zero_add Nat.add_zero Nat.sub_zero Nat.le_refl Nat.zero_mul Nat.mul_zero Nat.one_mul Nat.mul_one Int.toNat_zero Int.toNat_natCast Bool.or_false Bool.false_or Bool.or_true Bool.true_or Bool.and_true Bool.true_and Bool.and_false Bool.false_and beq_self_eq_true beq_true beq_false Bool.not_true Bool.not_false and_true true_and and_false false_and and_self imp_self Bool.cond_false_right Bool.cond_true_left implies_true forall_const true_implies false_implies Option.some.injEq Prod.mk.injEq ne_eq not_false_eq_true not_true_eq_false eq_self Nat.lt_irrefl Nat.not_lt_zero boF seaMin seaMax seaNat1 seaNat2 Value.bool.injEq Value.int.injEq srcF lstC TV.dp IV.eqv PT.eqv PV.eqv All2 keepE hupd callZ_N AS.frz AS.frzW frzs frzsOk frzOk frzE frzA frzT frzC frzG frzH hdel cmpS eqF eqC gvs eqVs eqV decide_true resF tupA inlQ okL okGL okG nextL wkH wkC wkV nilA nilC AV.ok TV.ok CV.ok LV.ok okB forall_eq_or_imp forall_eq List.not_mem_nil List.mem_singleton true_or or_true or_false false_or exists_prop AV.t.injEq TV.one.injEq CV.iv.injEq IV.g.injEq TV.agg.injEq List.cons.injEq
theorem fnok_80 : fnOk Try.prog 80 = true := by kernel_rfl
theorem fo_68 : fieldsOk Try.prog 68 = true := by kernel_rfl
theorem pl_68_0 : placeF Try.prog 68 0 = some (0, 2) := by kernel_rfl
theorem pl_68_1 : placeF Try.prog 68 1 = some (2, 2) := by kernel_rfl

set_option maxRecDepth 100000 in
set_option maxHeartbeats 4000000 in
theorem height_0 (s st : Int) (n : Nat) (lo hi : Nat → Int) (f u : Int) (hv0 : tval s st n lo hi = true) (hf : tm f = true) (hu : tm u = true) (h1 : f ≤ u) (h2 : s ≤ f ∧ u ≤ s + ((n : Int) - 1) * st) : CallsP Try.prog 19 [tideP s st n lo hi, .one (.g (.int .i64 (f))), .one (.g (.int .i64 (u)))] (.tup [.agg [.g (.int .i64 (oL (fo f u (strs s st lo hi n)))), .g (.int .i64 (oH (fo f u (strs s st lo hi n))))], .one (.g (.int .i64 (0)))]) := by
  have hv := tval_tv hv0
  refine CallsP_of Try.func19 rfl (by rw [Try.ntmps19]; simp) ?_
  simp only [Try.ntmps19, List.map_cons, List.map_nil, PT.tv, argEnv, Nat.zero_add, Nat.reduceAdd]
  repeat' (first
    | (with_reducible refine AW_seq_k fun K hK => ?_)
    | ((first | (with_reducible refine And.intro ?_ ?_) | (with_reducible refine Need.mk ?_)); focus (first | exact True.intro | (with_reducible assumption) | omega | (refine ⟨?_, ?_⟩ <;> omega) | (intro _; first | exact True.intro | (with_reducible assumption) | omega) | (intros; (repeat' (first | exact True.intro | omega | (with_reducible assumption) | (with_reducible refine And.intro ?_ ?_))); done) | (simp (disch := omega) only [Bool.and_eq_true, Bool.or_eq_true, decide_eq_true_eq, bne_iff_ne, ne_eq] at *; first | done | omega | (intros; omega)) | (simp; done) | (simp; omega) | (simp +contextual; done) | (intro h; rw [h]; rfl) | (intros; simp_all; done)))
    | (with_reducible refine AW_skip ?_)
    | (with_reducible refine AW_exit ?_)
    | (with_reducible refine AW_ret ?_)
    | (with_reducible refine retK_n ?_)
    | (with_reducible refine retK_n' ?_)
    | (with_reducible refine retH_n rfl rfl rfl ?_)
    | (with_reducible refine retH_n' rfl rfl rfl ?_)
    | (with_reducible refine AW_condI ?_)
    | (with_reducible refine AW_block ?_)
    | ((with_reducible refine condN_t ?_ ?_) <;> (intro hc; (try simp only [Bool.and_eq_true, Bool.or_eq_true, Bool.not_eq_true', Bool.and_eq_false_iff, Bool.or_eq_false_iff, decide_eq_true_eq, decide_eq_false_iff_not, bne_iff_ne, beq_iff_eq, reduceCtorEq, bne_eq_false_iff_eq, beq_eq_false_iff_ne, Bool.not_eq_false', Int.not_le, Int.not_lt, Bool.not_not] at hc); (try (exfalso; first | contradiction | omega))))
    | (with_reducible refine AW_regionP 0 [0, 1, 2, 43] ?_)
    | (with_reducible refine AW_regionP 1 [0, 1, 3, 4, 5, 6, 9, 10, 11, 43] ?_)
    | (with_reducible refine AW_regionP 2 [0, 1, 6, 9, 10, 11] ?_)
    | (with_reducible refine AW_regionP 3 [0, 1, 3, 4, 9, 10, 11] ?_)
    | ((with_reducible refine AW_prune (c := Code.region 3 _ true) [3, 4, 5, 6, 43] ?_); (with_reducible refine AW_regionD ?_ ?_ ?_ ?_); (focus kernel_rfl); (focus kernel_rfl); (focus kernel_rfl))
    | (with_reducible refine AW_regionP 4 [0, 1, 3, 4, 5, 6, 9, 10, 11] ?_)
    | (with_reducible refine AW_regionP 5 [3, 4, 5, 6, 43] ?_)
    | ((with_reducible refine AW_prune (c := Code.region 5 _ true) [0, 1, 3, 4, 5, 9, 10, 11] ?_); (with_reducible refine AW_regionD ?_ ?_ ?_ ?_); (focus kernel_rfl); (focus kernel_rfl); (focus kernel_rfl))
    | (with_reducible refine AW_regionP 6 [0, 1, 3, 4, 5, 6, 8, 9, 10, 11, 43] ?_)
    | (with_reducible refine AW_regionP 7 [0, 1, 3, 4, 5, 6, 8, 9, 10, 11, 43] ?_)
    | (with_reducible refine AW_regionP 8 [0, 1, 4, 5, 6, 8, 9, 10, 11, 43] ?_)
    | (with_reducible refine AW_regionP 9 [4, 5, 6, 8, 9, 10, 43] ?_)
    | (with_reducible refine AW_regionP 10 [4, 5, 6, 8, 9, 10, 43] ?_)
    | (with_reducible refine AW_regionP 11 [4, 5, 6, 8, 9, 10, 43] ?_)
    | (with_reducible refine AW_regionP 12 [4, 5, 6, 8, 9, 10, 43] ?_)
    | (with_reducible refine AW_regionP 13 [6, 8] ?_)
    | ((with_reducible refine And.intro ?_ ?_); focus ((with_reducible show chkR _ _ _ = true); kernel_rfl))
    | (refine callN_q (k := 18) fnok_18 (valid_p _ _ _ _ _) ?_ ?_)
    | (refine callN_q (k := 49) fnok_49 (isTime_p _) ?_ ?_)
    | (refine callGN_q (k := 49) fnok_49 (fun hg => isTime_p _) ?_ ?_)
    | (refine callN_q (k := 52) fnok_52 (last_v hv0) ?_ ?_)
    | (refine callDGN_q (k := 52) fnok_52 (fun hg => last_v hv0) ?_ ?_)
    | (refine callN_q (k := 54) fnok_54 (join_ok _ _ _ _ (by omega) (by omega) (by omega) (by omega) (by omega) (by omega)) ?_ ?_)
    | (refine callDN_q (k := 54) fnok_54 (join_ok _ _ _ _ (by omega) (by omega) (by omega) (by omega) (by omega) (by omega)) ?_ ?_)
    | ((with_reducible refine AW_loopQ (c := (Code.seq (Code.region 1 _ _) _)) (ι := Nat) [0, 1, 9, 10] (fun k => [(11, iA .i64 (k : Int))]) (fun k => [(4, [.iv (.g (.int .i64 (oL (fo f u (strs s st lo hi k))))), .iv (.g (.int .i64 (oH (fo f u (strs s st lo hi k)))))]), (5, [.iv (.g (.bool (fo f u (strs s st lo hi k)).isSome))])]) (fun k => k ≤ n) (fun k => n - k) 0 ?lg1 ?l11 ?l21 ?li1 ?lr1); (case' lg1 => rintro k _); (case' li1 => try (first | trivial | omega | (simp; done) | (simp; omega))); (case' lr1 => rintro k hk KR hR1; (rcases round_t hv hk with hge | ⟨⟨hlt, hn2, hs0, hst0, hst1⟩, ⟨p1, p2, p3⟩, ⟨q1, q2, q3⟩, ⟨r1, r2, ⟨r3, r4, r5⟩, r6⟩ | r1⟩ <;> rcases fo_cases hv f u hk with hA | ⟨a1, a2, hA, a3, a4, a5⟩ <;> try simp only [hA, oL, oH, Option.isSome_none, Option.isSome_some]); simp only [keepE, hupd, hset, lk, if_true, if_false, Nat.reduceEqDiff, reduceIte, List.cons_append, List.nil_append, spanF0, spanF1, hv0, hf, hu]))
    | ((with_reducible refine hR1 _ (k + 1) ?_); (try clear hR1 KR))
    | ((with_reducible refine Told.mk ?_); simp only [go_sem, reduceIte, reduceCtorEq, Nat.reduceAdd, Nat.reduceLT, Nat.reduceLeDiff, Nat.reduceEqDiff, Nat.reduceMul, Nat.reduceSub, Nat.reduceBEq, spanF0, spanF1, hv0, hf, hu] <;> (first | exact True.intro | ((repeat' (first | exact True.intro | omega | (with_reducible assumption) | (with_reducible refine And.intro ?_ ?_) | ((first | rw [strs_mid (by assumption) (by assumption)] | rw [strs_row (by assumption)]); (simp (disch := omega) only [fo_snoc, hA, accS_m, accS_n, accS_s, oL, oH, Option.isSome_none, Option.isSome_some, seaWrap])) | (simp (disch := omega) only [seaWrap, Int.natCast_add, Int.cast_ofNat_Int]))); done) | (simp [fo, strs, oL, oH]) | (refine Stuck.out ?_)))
    | ((fail_if_success (with_reducible show AW _ _ _ _)); simp (maxSteps := 2000000) only [go_sem, reduceIte, reduceCtorEq, Nat.reduceAdd, Nat.reduceLT, Nat.reduceLeDiff, Nat.reduceEqDiff, Nat.reduceMul, Nat.reduceSub, Nat.reduceBEq, Try.f19, Try.f80, Try.f48, zc_31, ty_24, fnok_18, ty_3, fnok_49, fo_31, ty_31, of_24_0, fnok_52, zc_4, ty_4, fnok_48, zc_68, ty_68, of_68_0, of_31_1, of_31_0, of_68_1, fnok_54, of_24_2, ty_22, le_22, sl_22, ar_22, of_24_1, pl_31_0, pl_31_1, fo_68, pl_68_0, pl_68_1, spanF0, spanF1, hv0, hf, hu])
    | ((fail_if_success (with_reducible show AW _ _ _ _)); simp (disch := omega) only [seaWrap, seaDiv, seaMod])
    | ((refine AW_rangeFuncH (k := 80) rfl Try.func80 rfl fnok_80 (by rw [Try.ntmps80]; simp) ?_ ?_ (fun l hlne A B hA hB => ?_)); (focus (simp (maxSteps := 2000000) only [go_sem, reduceIte, reduceCtorEq, Nat.reduceAdd, Nat.reduceLT, Nat.reduceLeDiff, Nat.reduceEqDiff, Nat.reduceMul, Nat.reduceSub, Nat.reduceBEq, Try.f19, Try.f80, Try.f48, zc_31, ty_24, fnok_18, ty_3, fnok_49, fo_31, ty_31, of_24_0, fnok_52, zc_4, ty_4, fnok_48, zc_68, ty_68, of_68_0, of_31_1, of_31_0, of_68_1, fnok_54, of_24_2, ty_22, le_22, sl_22, ar_22, of_24_1, pl_31_0, pl_31_1, fo_68, pl_68_0, pl_68_1, spanF0, spanF1, hv0, hf, hu]; try exact True.intro)); (focus (simp (maxSteps := 2000000) only [go_sem, reduceIte, reduceCtorEq, Nat.reduceAdd, Nat.reduceLT, Nat.reduceLeDiff, Nat.reduceEqDiff, Nat.reduceMul, Nat.reduceSub, Nat.reduceBEq, Try.f19, Try.f80, Try.f48, zc_31, ty_24, fnok_18, ty_3, fnok_49, fo_31, ty_31, of_24_0, fnok_52, zc_4, ty_4, fnok_48, zc_68, ty_68, of_68_0, of_31_1, of_31_0, of_68_1, fnok_54, of_24_2, ty_22, le_22, sl_22, ar_22, of_24_1, pl_31_0, pl_31_1, fo_68, pl_68_0, pl_68_1, spanF0, spanF1, hv0, hf, hu]; try exact True.intro)); simp only [Try.ntmps80, List.map_cons, List.map_nil, LV.tv, argEnv, yV, Nat.zero_add, Nat.reduceAdd]; clear hlne)
    | ((refine callN_i (k := 48) Try.func48 rfl fnok_48 (by rw [Try.ntmps48]; simp) ?_ ?_ (fun K hK => ?_)); (focus (first | exact True.intro | (with_reducible assumption) | omega | (refine ⟨?_, ?_⟩ <;> omega) | (intro _; first | exact True.intro | (with_reducible assumption) | omega) | (intros; (repeat' (first | exact True.intro | omega | (with_reducible assumption) | (with_reducible refine And.intro ?_ ?_))); done) | (simp (disch := omega) only [Bool.and_eq_true, Bool.or_eq_true, decide_eq_true_eq, bne_iff_ne, ne_eq] at *; first | done | omega | (intros; omega)) | (simp; done) | (simp; omega) | (simp +contextual; done) | (intro h; rw [h]; rfl) | (intros; simp_all; done))); (focus (simp [lsF])); simp only [Try.ntmps48, List.map_cons, List.map_nil, List.nil_append, List.cons_append, List.append_nil, LV.tv, argEnv, Nat.zero_add, Nat.reduceAdd])
    | (with_reducible refine AW_eq (by assumption) ?_)
    | ((with_reducible show callN _ _ _ _ _ _ (.yld _) _ _ _); (refine callN_y (by simp only [lkL, if_true]; exact rfl) ?_ (by simp) ?_ ?_ (fun K hK => ?_)); (focus (first | exact True.intro | (with_reducible assumption) | omega | (refine ⟨?_, ?_⟩ <;> omega) | (intro _; first | exact True.intro | (with_reducible assumption) | omega) | (intros; (repeat' (first | exact True.intro | omega | (with_reducible assumption) | (with_reducible refine And.intro ?_ ?_))); done) | (simp (disch := omega) only [Bool.and_eq_true, Bool.or_eq_true, decide_eq_true_eq, bne_iff_ne, ne_eq] at *; first | done | omega | (intros; omega)) | (simp; done) | (simp; omega) | (simp +contextual; done) | (intro h; rw [h]; rfl) | (intros; simp_all; done))); (focus (simp [ltAll])); (focus (simp [lsF])); simp only [zipPut, gf, if_true, Nat.reduceAdd])
    | ((with_reducible refine hK _ ?_); clear hK K)
    | (with_reducible apply_assumption -exfalso))
  all_goals ((obtain rfl : k = n := (by omega)); simp [hA, oL, oH])

theorem height_p (s st : Int) (n : Nat) (lo hi : Nat → Int) (f u : Int) : CallsP Try.prog 19 [tideP s st n lo hi, .one (.g (.int .i64 f)), .one (.g (.int .i64 u))] (.tup [.agg [.g (.int .i64 (HL s st n lo hi f u)), .g (.int .i64 (HH s st n lo hi f u))], .one (.g (.int .i64 (HE s st n lo hi f u)))]) := by
  cases h : ((tval s st n lo hi && tm f) && tm u) && decide (f ≤ u) with
  | false =>
    obtain ⟨e1, e2, e3⟩ := he_1 (s := s) (st := st) (n := n) (lo := lo) (hi := hi) (f := f) (u := u) (by
      simp only [Bool.and_eq_false_iff, decide_eq_false_iff_not, Int.not_le] at h
      exact h)
    rw [e1, e2, e3]
    exact height_1 s st n lo hi f u h
  | true =>
    simp only [Bool.and_eq_true, decide_eq_true_eq] at h
    by_cases h2 : s ≤ f ∧ u ≤ s + ((n : Int) - 1) * st
    · obtain ⟨e1, e2⟩ := hl_0 h h2 rfl
      rw [← e1, ← e2, he_0 h h2]
      exact height_0 s st n lo hi f u h.1.1.1 h.1.1.2 h.1.2 h.2 h2
    · obtain ⟨e1, e2, e3⟩ := he_4 h (by omega)
      rw [e1, e2, e3]
      exact height_4 s st n lo hi f u h.1.1.1 h.1.1.2 h.1.2 h.2 (by omega)

end Go.Proofs.Ythfnmooeijneoaa
