/- F: walks on abstract states. -/
import Derived.Test.YthfnmooeijneoaaE
import Derived.Test.YthfnmooeijneoaaB0
set_option linter.unusedVariables false
set_option linter.unusedSimpArgs false
namespace Go.Proofs.Ythfnmooeijneoaa
open Go.RowKit Go.Sea
attribute [local go_sem] callK_N gf gk gdrop lkL setL lsF ltAll rdyL bodyF roundQ roundS loopQ loopS jumpOf inLs yV yA bAV zipPut purgeG List.tail_cons Option.isNone_none Option.isNone_some callGK_f callDK_f callDGK_f retN retHN blockA arun_nil arun_plain arun_guard plainF guardF guardB arunD_nil arunD_plain arunD_guard plainDF guardDF guardDB AS.ent Eff.noApp Eff.tgt ftF AV.refs TV.refs CV.refs LV.refs Op.operands Call.operands List.append_toArray List.push_toArray List.flatMap_cons List.flatMap_nil List.toList_toArray Option.toArray List.reverse_cons List.reverse_nil opF AS.ev constA lk AS.get AV.tv AV.nd AS.eff AS.put argEnv PT.tv PV.av AV.mbOf hset hget TV.cells dstOk thenA gB isB toB TV.bool? TV.int? intF loadF storeF fieldF indexF lenF sliceF optI appF minmaxF ipCells fillF repC partsF lvsF TV.lv LV.tv purgeE purgeC purgeH AV.purge CV.purge AV.has TV.has CV.has LV.has calleeF argsF tvsF toPT toIV toIVs toPTs toPV civ isIv iA bA List.map_cons List.map_nil List.length_nil List.length_cons List.getElem?_cons_zero List.getElem?_cons_succ List.getElem?_nil Option.getD_some Option.getD_none Option.bind_some Option.bind_none List.take_succ_cons List.take_zero List.drop_succ_cons List.drop_zero List.take_nil List.drop_nil List.cons_append List.nil_append List.append_nil List.getD_cons_zero List.getD_cons_succ Option.map_some Option.map_none Option.isSome_some Option.isSome_none List.size_toArray List.any_cons List.any_nil List.mem_cons if_true if_false ite_true ite_false cond_true cond_false Nat.zero_add Nat.add_zero Nat.sub_zero Nat.le_refl Nat.zero_mul Nat.mul_zero Nat.one_mul Nat.mul_one Int.toNat_zero Int.toNat_natCast Bool.or_false Bool.false_or Bool.or_true Bool.true_or Bool.and_true Bool.true_and Bool.and_false Bool.false_and beq_self_eq_true beq_true beq_false Bool.not_true Bool.not_false and_true true_and and_false false_and and_self imp_self Bool.cond_false_right Bool.cond_true_left implies_true forall_const true_implies false_implies Option.some.injEq Prod.mk.injEq ne_eq not_false_eq_true not_true_eq_false eq_self Nat.lt_irrefl Nat.not_lt_zero boF seaMin seaMax seaNat1 seaNat2 Value.bool.injEq Value.int.injEq srcF lstC TV.dp IV.eqv PT.eqv PV.eqv All2 keepE hupd callZ_N AS.frz AS.frzW frzs frzsOk frzOk frzE frzA frzT frzC frzG frzH hdel cmpS eqF eqC gvs eqVs eqV decide_true resF tupA inlQ okL okGL okG nextL wkH wkC wkV nilA nilC AV.ok TV.ok CV.ok LV.ok okB forall_eq_or_imp forall_eq List.not_mem_nil List.mem_singleton true_or or_true or_false false_or exists_prop AV.t.injEq TV.one.injEq CV.iv.injEq IV.g.injEq TV.agg.injEq List.cons.injEq
theorem fnok_19 : fnOk Try.prog 19 = true := by kernel_rfl
theorem fnok_75 : fnOk Try.prog 75 = true := by kernel_rfl
theorem fnok_76 : fnOk Try.prog 76 = true := by kernel_rfl
theorem of_80_3 : offOf Try.prog 80 3 = some 5 := by kernel_rfl
theorem pl_80_3 : placeF Try.prog 80 3 = some (5, 3) := by kernel_rfl

theorem he_c (s st : Int) (n : Nat) (lo hi : Nat → Int) (f u : Int) : HE s st n lo hi f u = 1 ∨ HE s st n lo hi f u = 4 ∨ HE s st n lo hi f u = 0 := by
  unfold HE; split
  · split <;> omega
  · omega
theorem hl_bd {s st : Int} {n : Nat} {lo hi : Nat → Int} {f u : Int} : -100000 ≤ HL s st n lo hi f u ∧ HL s st n lo hi f u ≤ HH s st n lo hi f u ∧ HH s st n lo hi f u ≤ 100000 := by
  unfold HL HH
  split
  · rename_i h
    have := fo_okr (he_ok h).1 f u
    cases e : fo f u (strs s st lo hi n) with
    | none => simp [oL, oH]
    | some a => rw [e] at this; exact this
  · omega
theorem needV_bd {d m : Int} {q : Nat} {sq : Nat → Int} {v : Int} (hk : kval d m q sq = true) (h0 : 0 ≤ v) (h1 : v ≤ 100 * q) : 0 ≤ needV d m sq v ∧ needV d m sq v ≤ 3000 ∧ d ≤ needV d m sq v := by
  obtain ⟨g1, g2, g3, g4, g5, g6, _, g8⟩ := kval_kv hk
  unfold needV
  split
  · omega
  · have := g8 ((v - 1) / 100).toNat (by have := need_ix (q := q) (v := v) (by omega) h1; omega)
    omega

set_option maxRecDepth 100000 in
set_option maxHeartbeats 4000000 in
theorem sleast_1 (d m : Int) (q : Nat) (sq : Nat → Int) (v dp s st : Int) (n : Nat) (lo hi : Nat → Int) (f u : Int) (hh : (kval d m q sq && isSp v) = false) : CallsP Try.prog 76 [sailP d m q sq v dp s st n lo hi, .one (.g (.int .i64 (f))), .one (.g (.int .i64 (u)))] (.tup [.one (.g (.int .i64 (0))), .one (.g (.int .i64 (1)))]) := by
  refine CallsP_of Try.func76 rfl (by rw [Try.ntmps76]; simp) ?_
  simp only [Try.ntmps76, List.map_cons, List.map_nil, PT.tv, argEnv, Nat.zero_add, Nat.reduceAdd]
  repeat' (first
    | (with_reducible refine AW_seq_k fun K hK => ?_)
    | ((first | (with_reducible refine And.intro ?_ ?_) | (with_reducible refine Need.mk ?_)); focus (first | exact True.intro | (with_reducible assumption) | omega | (refine ⟨?_, ?_⟩ <;> omega) | (intro _; first | exact True.intro | (with_reducible assumption) | omega) | (intros; (repeat' (first | exact True.intro | omega | (with_reducible assumption) | (with_reducible refine And.intro ?_ ?_))); done) | (simp (disch := omega) only [Bool.and_eq_true, Bool.or_eq_true, decide_eq_true_eq, bne_iff_ne, ne_eq] at *; first | done | omega | (intros; omega)) | (simp; done) | (simp; omega) | (simp +contextual; done) | (intro h; rw [h]; rfl) | (intros; simp_all; done)))
    | (with_reducible refine AW_skip ?_)
    | (with_reducible refine AW_exit ?_)
    | (with_reducible refine AW_ret ?_)
    | (with_reducible refine retK_n ?_)
    | (with_reducible refine retK_n' ?_)
    | (with_reducible refine retH_n rfl rfl rfl ?_)
    | (with_reducible refine retH_n' rfl rfl rfl ?_)
    | (with_reducible refine AW_condI ?_)
    | (with_reducible refine AW_block ?_)
    | ((with_reducible refine condN_t ?_ ?_) <;> (intro hc; (try simp only [Bool.and_eq_true, Bool.or_eq_true, Bool.not_eq_true', Bool.and_eq_false_iff, Bool.or_eq_false_iff, decide_eq_true_eq, decide_eq_false_iff_not, bne_iff_ne, beq_iff_eq, reduceCtorEq, bne_eq_false_iff_eq, beq_eq_false_iff_ne, Bool.not_eq_false', Int.not_le, Int.not_lt, Bool.not_not] at hc); (try (exfalso; first | contradiction | omega))))
    | (with_reducible refine AW_regionP 0 [0, 1, 2] ?_)
    | (with_reducible refine AW_regionP 1 [1, 2, 3] ?_)
    | (with_reducible refine AW_regionP 2 [3, 8, 9] ?_)
    | (with_reducible refine AW_regionP 3 [] ?_)
    | (with_reducible refine AW_regionP 4 [3, 8, 9] ?_)
    | (with_reducible refine AW_regionP 5 [] ?_)
    | (with_reducible refine AW_regionP 6 [3, 8, 9] ?_)
    | (with_reducible refine AW_regionP 7 [9] ?_)
    | ((with_reducible refine AW_prune (c := Code.region 8 _ true) [3, 8] ?_); (with_reducible refine AW_regionD ?_ ?_ ?_ ?_); (focus kernel_rfl); (focus kernel_rfl); (focus kernel_rfl))
    | ((with_reducible refine And.intro ?_ ?_); focus ((with_reducible show chkR _ _ _ = true); kernel_rfl))
    | (refine callN_q (k := 19) fnok_19 (height_p _ _ _ _ _ _ _) ?_ ?_)
    | (refine callN_q (k := 71) fnok_71 (svalid_p _ _ _ _ _ _ _ _ _ _ _) ?_ ?_)
    | (refine callN_q (k := 72) fnok_72 (sfits_p _ _ _ _ _ _ _ _ _ _ _ (by omega)) ?_ ?_)
    | ((fail_if_success (with_reducible show AW _ _ _ _)); simp (maxSteps := 2000000) only [go_sem, reduceIte, reduceCtorEq, Nat.reduceAdd, Nat.reduceLT, Nat.reduceLeDiff, Nat.reduceEqDiff, Nat.reduceMul, Nat.reduceSub, Nat.reduceBEq, Try.f76, of_80_3, ty_24, fnok_19, zc_31, ty_31, ty_80, fnok_71, fnok_72, fnok_73, of_31_0, ty_3, hh])
    | ((fail_if_success (with_reducible show AW _ _ _ _)); simp (disch := omega) only [seaWrap, seaDiv, seaMod])
    | ((with_reducible refine hK _ ?_); clear hK K))

set_option maxRecDepth 100000 in
set_option maxHeartbeats 4000000 in
theorem sleast_2 (d m : Int) (q : Nat) (sq : Nat → Int) (v dp s st : Int) (n : Nat) (lo hi : Nat → Int) (f u : Int) (he : HE s st n lo hi f u = 1) : CallsP Try.prog 76 [sailP d m q sq v dp s st n lo hi, .one (.g (.int .i64 (f))), .one (.g (.int .i64 (u)))] (.tup [.one (.g (.int .i64 (0))), .one (.g (.int .i64 (1)))]) := by
  refine CallsP_of Try.func76 rfl (by rw [Try.ntmps76]; simp) ?_
  simp only [Try.ntmps76, List.map_cons, List.map_nil, PT.tv, argEnv, Nat.zero_add, Nat.reduceAdd]
  repeat' (first
    | (with_reducible refine AW_seq_k fun K hK => ?_)
    | ((first | (with_reducible refine And.intro ?_ ?_) | (with_reducible refine Need.mk ?_)); focus (first | exact True.intro | (with_reducible assumption) | omega | (refine ⟨?_, ?_⟩ <;> omega) | (intro _; first | exact True.intro | (with_reducible assumption) | omega) | (intros; (repeat' (first | exact True.intro | omega | (with_reducible assumption) | (with_reducible refine And.intro ?_ ?_))); done) | (simp (disch := omega) only [Bool.and_eq_true, Bool.or_eq_true, decide_eq_true_eq, bne_iff_ne, ne_eq] at *; first | done | omega | (intros; omega)) | (simp; done) | (simp; omega) | (simp +contextual; done) | (intro h; rw [h]; rfl) | (intros; simp_all; done)))
    | (with_reducible refine AW_skip ?_)
    | (with_reducible refine AW_exit ?_)
    | (with_reducible refine AW_ret ?_)
    | (with_reducible refine retK_n ?_)
    | (with_reducible refine retK_n' ?_)
    | (with_reducible refine retH_n rfl rfl rfl ?_)
    | (with_reducible refine retH_n' rfl rfl rfl ?_)
    | (with_reducible refine AW_condI ?_)
    | (with_reducible refine AW_block ?_)
    | ((with_reducible refine condN_t ?_ ?_) <;> (intro hc; (try simp only [Bool.and_eq_true, Bool.or_eq_true, Bool.not_eq_true', Bool.and_eq_false_iff, Bool.or_eq_false_iff, decide_eq_true_eq, decide_eq_false_iff_not, bne_iff_ne, beq_iff_eq, reduceCtorEq, bne_eq_false_iff_eq, beq_eq_false_iff_ne, Bool.not_eq_false', Int.not_le, Int.not_lt, Bool.not_not] at hc); (try (exfalso; first | contradiction | omega))))
    | (with_reducible refine AW_regionP 0 [0, 1, 2] ?_)
    | (with_reducible refine AW_regionP 1 [1, 2, 3] ?_)
    | (with_reducible refine AW_regionP 2 [3, 8, 9] ?_)
    | (with_reducible refine AW_regionP 3 [] ?_)
    | (with_reducible refine AW_regionP 4 [3, 8, 9] ?_)
    | (with_reducible refine AW_regionP 5 [] ?_)
    | (with_reducible refine AW_regionP 6 [3, 8, 9] ?_)
    | (with_reducible refine AW_regionP 7 [9] ?_)
    | ((with_reducible refine AW_prune (c := Code.region 8 _ true) [3, 8] ?_); (with_reducible refine AW_regionD ?_ ?_ ?_ ?_); (focus kernel_rfl); (focus kernel_rfl); (focus kernel_rfl))
    | ((with_reducible refine And.intro ?_ ?_); focus ((with_reducible show chkR _ _ _ = true); kernel_rfl))
    | (refine callN_q (k := 19) fnok_19 (height_p _ _ _ _ _ _ _) ?_ ?_)
    | (refine callN_q (k := 71) fnok_71 (svalid_p _ _ _ _ _ _ _ _ _ _ _) ?_ ?_)
    | (refine callN_q (k := 72) fnok_72 (sfits_p _ _ _ _ _ _ _ _ _ _ _ (by omega)) ?_ ?_)
    | ((fail_if_success (with_reducible show AW _ _ _ _)); simp (maxSteps := 2000000) only [go_sem, reduceIte, reduceCtorEq, Nat.reduceAdd, Nat.reduceLT, Nat.reduceLeDiff, Nat.reduceEqDiff, Nat.reduceMul, Nat.reduceSub, Nat.reduceBEq, Try.f76, of_80_3, ty_24, fnok_19, zc_31, ty_31, ty_80, fnok_71, fnok_72, fnok_73, of_31_0, ty_3, he])
    | ((fail_if_success (with_reducible show AW _ _ _ _)); simp (disch := omega) only [seaWrap, seaDiv, seaMod])
    | ((with_reducible refine hK _ ?_); clear hK K))

set_option maxRecDepth 100000 in
set_option maxHeartbeats 4000000 in
theorem sleast_3 (d m : Int) (q : Nat) (sq : Nat → Int) (v dp s st : Int) (n : Nat) (lo hi : Nat → Int) (f u : Int) (hk : kval d m q sq = true) (hs : isSp v = true) (v0 : 0 ≤ v) (v1 : v ≤ 2000) (q1 : q ≤ 20) (c : 100 * (q : Int) < v) (he : HE s st n lo hi f u ≠ 1) : CallsP Try.prog 76 [sailP d m q sq v dp s st n lo hi, .one (.g (.int .i64 (f))), .one (.g (.int .i64 (u)))] (.tup [.one (.g (.int .i64 (0))), .one (.g (.int .i64 (3)))]) := by
  refine CallsP_of Try.func76 rfl (by rw [Try.ntmps76]; simp) ?_
  simp only [Try.ntmps76, List.map_cons, List.map_nil, PT.tv, argEnv, Nat.zero_add, Nat.reduceAdd]
  repeat' (first
    | (with_reducible refine AW_seq_k fun K hK => ?_)
    | ((first | (with_reducible refine And.intro ?_ ?_) | (with_reducible refine Need.mk ?_)); focus (first | exact True.intro | (with_reducible assumption) | omega | (refine ⟨?_, ?_⟩ <;> omega) | (intro _; first | exact True.intro | (with_reducible assumption) | omega) | (intros; (repeat' (first | exact True.intro | omega | (with_reducible assumption) | (with_reducible refine And.intro ?_ ?_))); done) | (simp (disch := omega) only [Bool.and_eq_true, Bool.or_eq_true, decide_eq_true_eq, bne_iff_ne, ne_eq] at *; first | done | omega | (intros; omega)) | (simp; done) | (simp; omega) | (simp +contextual; done) | (intro h; rw [h]; rfl) | (intros; simp_all; done)))
    | (with_reducible refine AW_skip ?_)
    | (with_reducible refine AW_exit ?_)
    | (with_reducible refine AW_ret ?_)
    | (with_reducible refine retK_n ?_)
    | (with_reducible refine retK_n' ?_)
    | (with_reducible refine retH_n rfl rfl rfl ?_)
    | (with_reducible refine retH_n' rfl rfl rfl ?_)
    | (with_reducible refine AW_condI ?_)
    | (with_reducible refine AW_block ?_)
    | ((with_reducible refine condN_t ?_ ?_) <;> (intro hc; (try simp only [Bool.and_eq_true, Bool.or_eq_true, Bool.not_eq_true', Bool.and_eq_false_iff, Bool.or_eq_false_iff, decide_eq_true_eq, decide_eq_false_iff_not, bne_iff_ne, beq_iff_eq, reduceCtorEq, bne_eq_false_iff_eq, beq_eq_false_iff_ne, Bool.not_eq_false', Int.not_le, Int.not_lt, Bool.not_not] at hc); (try (exfalso; first | contradiction | omega))))
    | (with_reducible refine AW_regionP 0 [0, 1, 2] ?_)
    | (with_reducible refine AW_regionP 1 [1, 2, 3] ?_)
    | (with_reducible refine AW_regionP 2 [3, 8, 9] ?_)
    | (with_reducible refine AW_regionP 3 [] ?_)
    | (with_reducible refine AW_regionP 4 [3, 8, 9] ?_)
    | (with_reducible refine AW_regionP 5 [] ?_)
    | (with_reducible refine AW_regionP 6 [3, 8, 9] ?_)
    | (with_reducible refine AW_regionP 7 [9] ?_)
    | ((with_reducible refine AW_prune (c := Code.region 8 _ true) [3, 8] ?_); (with_reducible refine AW_regionD ?_ ?_ ?_ ?_); (focus kernel_rfl); (focus kernel_rfl); (focus kernel_rfl))
    | ((with_reducible refine And.intro ?_ ?_); focus ((with_reducible show chkR _ _ _ = true); kernel_rfl))
    | (refine callN_q (k := 19) fnok_19 (height_p _ _ _ _ _ _ _) ?_ ?_)
    | (refine callN_q (k := 71) fnok_71 (svalid_p _ _ _ _ _ _ _ _ _ _ _) ?_ ?_)
    | (refine callN_q (k := 72) fnok_72 (sfits_p _ _ _ _ _ _ _ _ _ _ _ (by omega)) ?_ ?_)
    | ((fail_if_success (with_reducible show AW _ _ _ _)); simp (maxSteps := 2000000) only [go_sem, reduceIte, reduceCtorEq, Nat.reduceAdd, Nat.reduceLT, Nat.reduceLeDiff, Nat.reduceEqDiff, Nat.reduceMul, Nat.reduceSub, Nat.reduceBEq, Try.f76, of_80_3, ty_24, fnok_19, zc_31, ty_31, ty_80, fnok_71, fnok_72, fnok_73, of_31_0, ty_3, hk, hs])
    | ((fail_if_success (with_reducible show AW _ _ _ _)); simp (disch := omega) only [seaWrap, seaDiv, seaMod])
    | ((with_reducible refine hK _ ?_); clear hK K))

set_option maxRecDepth 100000 in
set_option maxHeartbeats 4000000 in
theorem sleast_4 (d m : Int) (q : Nat) (sq : Nat → Int) (v dp s st : Int) (n : Nat) (lo hi : Nat → Int) (f u : Int) (hk : kval d m q sq = true) (hs : isSp v = true) (v0 : 0 ≤ v) (v1 : v ≤ 2000) (q1 : q ≤ 20) (c : v ≤ 100 * (q : Int)) (he : HE s st n lo hi f u = 4) : CallsP Try.prog 76 [sailP d m q sq v dp s st n lo hi, .one (.g (.int .i64 (f))), .one (.g (.int .i64 (u)))] (.tup [.one (.g (.int .i64 (0))), .one (.g (.int .i64 (4)))]) := by
  refine CallsP_of Try.func76 rfl (by rw [Try.ntmps76]; simp) ?_
  simp only [Try.ntmps76, List.map_cons, List.map_nil, PT.tv, argEnv, Nat.zero_add, Nat.reduceAdd]
  repeat' (first
    | (with_reducible refine AW_seq_k fun K hK => ?_)
    | ((first | (with_reducible refine And.intro ?_ ?_) | (with_reducible refine Need.mk ?_)); focus (first | exact True.intro | (with_reducible assumption) | omega | (refine ⟨?_, ?_⟩ <;> omega) | (intro _; first | exact True.intro | (with_reducible assumption) | omega) | (intros; (repeat' (first | exact True.intro | omega | (with_reducible assumption) | (with_reducible refine And.intro ?_ ?_))); done) | (simp (disch := omega) only [Bool.and_eq_true, Bool.or_eq_true, decide_eq_true_eq, bne_iff_ne, ne_eq] at *; first | done | omega | (intros; omega)) | (simp; done) | (simp; omega) | (simp +contextual; done) | (intro h; rw [h]; rfl) | (intros; simp_all; done)))
    | (with_reducible refine AW_skip ?_)
    | (with_reducible refine AW_exit ?_)
    | (with_reducible refine AW_ret ?_)
    | (with_reducible refine retK_n ?_)
    | (with_reducible refine retK_n' ?_)
    | (with_reducible refine retH_n rfl rfl rfl ?_)
    | (with_reducible refine retH_n' rfl rfl rfl ?_)
    | (with_reducible refine AW_condI ?_)
    | (with_reducible refine AW_block ?_)
    | ((with_reducible refine condN_t ?_ ?_) <;> (intro hc; (try simp only [Bool.and_eq_true, Bool.or_eq_true, Bool.not_eq_true', Bool.and_eq_false_iff, Bool.or_eq_false_iff, decide_eq_true_eq, decide_eq_false_iff_not, bne_iff_ne, beq_iff_eq, reduceCtorEq, bne_eq_false_iff_eq, beq_eq_false_iff_ne, Bool.not_eq_false', Int.not_le, Int.not_lt, Bool.not_not] at hc); (try (exfalso; first | contradiction | omega))))
    | (with_reducible refine AW_regionP 0 [0, 1, 2] ?_)
    | (with_reducible refine AW_regionP 1 [1, 2, 3] ?_)
    | (with_reducible refine AW_regionP 2 [3, 8, 9] ?_)
    | (with_reducible refine AW_regionP 3 [] ?_)
    | (with_reducible refine AW_regionP 4 [3, 8, 9] ?_)
    | (with_reducible refine AW_regionP 5 [] ?_)
    | (with_reducible refine AW_regionP 6 [3, 8, 9] ?_)
    | (with_reducible refine AW_regionP 7 [9] ?_)
    | ((with_reducible refine AW_prune (c := Code.region 8 _ true) [3, 8] ?_); (with_reducible refine AW_regionD ?_ ?_ ?_ ?_); (focus kernel_rfl); (focus kernel_rfl); (focus kernel_rfl))
    | ((with_reducible refine And.intro ?_ ?_); focus ((with_reducible show chkR _ _ _ = true); kernel_rfl))
    | (refine callN_q (k := 19) fnok_19 (height_p _ _ _ _ _ _ _) ?_ ?_)
    | (refine callN_q (k := 71) fnok_71 (svalid_p _ _ _ _ _ _ _ _ _ _ _) ?_ ?_)
    | (refine callN_q (k := 72) fnok_72 (sfits_p _ _ _ _ _ _ _ _ _ _ _ (by omega)) ?_ ?_)
    | (refine callDN_q (k := 73) fnok_73 (sneed_p _ _ _ _ _ _ _ _ _ _ _ hk v0 c) ?_ ?_)
    | ((fail_if_success (with_reducible show AW _ _ _ _)); simp (maxSteps := 2000000) only [go_sem, reduceIte, reduceCtorEq, Nat.reduceAdd, Nat.reduceLT, Nat.reduceLeDiff, Nat.reduceEqDiff, Nat.reduceMul, Nat.reduceSub, Nat.reduceBEq, Try.f76, of_80_3, ty_24, fnok_19, zc_31, ty_31, ty_80, fnok_71, fnok_72, fnok_73, of_31_0, ty_3, hk, hs, he])
    | ((fail_if_success (with_reducible show AW _ _ _ _)); simp (disch := omega) only [seaWrap, seaDiv, seaMod])
    | ((with_reducible refine hK _ ?_); clear hK K))

set_option maxRecDepth 100000 in
set_option maxHeartbeats 4000000 in
theorem sleast_0 (d m : Int) (q : Nat) (sq : Nat → Int) (v dp s st : Int) (n : Nat) (lo hi : Nat → Int) (f u : Int) (hk : kval d m q sq = true) (hs : isSp v = true) (v0 : 0 ≤ v) (v1 : v ≤ 2000) (q1 : q ≤ 20) (c : v ≤ 100 * (q : Int)) (he : HE s st n lo hi f u = 0) (b0 : 0 ≤ needV d m sq v) (b1 : needV d m sq v ≤ 3000) (b2 : -100000 ≤ HL s st n lo hi f u) (b3 : HL s st n lo hi f u ≤ 100000) : CallsP Try.prog 76 [sailP d m q sq v dp s st n lo hi, .one (.g (.int .i64 (f))), .one (.g (.int .i64 (u)))] (.tup [.one (.g (.int .i64 (needV d m sq v - HL s st n lo hi f u))), .one (.g (.int .i64 (0)))]) := by
  refine CallsP_of Try.func76 rfl (by rw [Try.ntmps76]; simp) ?_
  simp only [Try.ntmps76, List.map_cons, List.map_nil, PT.tv, argEnv, Nat.zero_add, Nat.reduceAdd]
  repeat' (first
    | (with_reducible refine AW_seq_k fun K hK => ?_)
    | ((first | (with_reducible refine And.intro ?_ ?_) | (with_reducible refine Need.mk ?_)); focus (first | exact True.intro | (with_reducible assumption) | omega | (refine ⟨?_, ?_⟩ <;> omega) | (intro _; first | exact True.intro | (with_reducible assumption) | omega) | (intros; (repeat' (first | exact True.intro | omega | (with_reducible assumption) | (with_reducible refine And.intro ?_ ?_))); done) | (simp (disch := omega) only [Bool.and_eq_true, Bool.or_eq_true, decide_eq_true_eq, bne_iff_ne, ne_eq] at *; first | done | omega | (intros; omega)) | (simp; done) | (simp; omega) | (simp +contextual; done) | (intro h; rw [h]; rfl) | (intros; simp_all; done)))
    | (with_reducible refine AW_skip ?_)
    | (with_reducible refine AW_exit ?_)
    | (with_reducible refine AW_ret ?_)
    | (with_reducible refine retK_n ?_)
    | (with_reducible refine retK_n' ?_)
    | (with_reducible refine retH_n rfl rfl rfl ?_)
    | (with_reducible refine retH_n' rfl rfl rfl ?_)
    | (with_reducible refine AW_condI ?_)
    | (with_reducible refine AW_block ?_)
    | ((with_reducible refine condN_t ?_ ?_) <;> (intro hc; (try simp only [Bool.and_eq_true, Bool.or_eq_true, Bool.not_eq_true', Bool.and_eq_false_iff, Bool.or_eq_false_iff, decide_eq_true_eq, decide_eq_false_iff_not, bne_iff_ne, beq_iff_eq, reduceCtorEq, bne_eq_false_iff_eq, beq_eq_false_iff_ne, Bool.not_eq_false', Int.not_le, Int.not_lt, Bool.not_not] at hc); (try (exfalso; first | contradiction | omega))))
    | (with_reducible refine AW_regionP 0 [0, 1, 2] ?_)
    | (with_reducible refine AW_regionP 1 [1, 2, 3] ?_)
    | (with_reducible refine AW_regionP 2 [3, 8, 9] ?_)
    | (with_reducible refine AW_regionP 3 [] ?_)
    | (with_reducible refine AW_regionP 4 [3, 8, 9] ?_)
    | (with_reducible refine AW_regionP 5 [] ?_)
    | (with_reducible refine AW_regionP 6 [3, 8, 9] ?_)
    | (with_reducible refine AW_regionP 7 [9] ?_)
    | ((with_reducible refine AW_prune (c := Code.region 8 _ true) [3, 8] ?_); (with_reducible refine AW_regionD ?_ ?_ ?_ ?_); (focus kernel_rfl); (focus kernel_rfl); (focus kernel_rfl))
    | ((with_reducible refine And.intro ?_ ?_); focus ((with_reducible show chkR _ _ _ = true); kernel_rfl))
    | (refine callN_q (k := 19) fnok_19 (height_p _ _ _ _ _ _ _) ?_ ?_)
    | (refine callN_q (k := 71) fnok_71 (svalid_p _ _ _ _ _ _ _ _ _ _ _) ?_ ?_)
    | (refine callN_q (k := 72) fnok_72 (sfits_p _ _ _ _ _ _ _ _ _ _ _ (by omega)) ?_ ?_)
    | (refine callDN_q (k := 73) fnok_73 (sneed_p _ _ _ _ _ _ _ _ _ _ _ hk v0 c) ?_ ?_)
    | ((fail_if_success (with_reducible show AW _ _ _ _)); simp (maxSteps := 2000000) only [go_sem, reduceIte, reduceCtorEq, Nat.reduceAdd, Nat.reduceLT, Nat.reduceLeDiff, Nat.reduceEqDiff, Nat.reduceMul, Nat.reduceSub, Nat.reduceBEq, Try.f76, of_80_3, ty_24, fnok_19, zc_31, ty_31, ty_80, fnok_71, fnok_72, fnok_73, of_31_0, ty_3, hk, hs, he])
    | ((fail_if_success (with_reducible show AW _ _ _ _)); simp (disch := omega) only [seaWrap, seaDiv, seaMod])
    | ((with_reducible refine hK _ ?_); clear hK K))

theorem sleast_p (d m : Int) (q : Nat) (sq : Nat → Int) (v dp s st : Int) (n : Nat) (lo hi : Nat → Int) (f u : Int) : CallsP Try.prog 76 [sailP d m q sq v dp s st n lo hi, .one (.g (.int .i64 (f))), .one (.g (.int .i64 (u)))] (.tup [.one (.g (.int .i64 (lN d m q sq v s st n lo hi f u))), .one (.g (.int .i64 (lE d m q sq v s st n lo hi f u)))]) := by
  unfold lN lE
  rcases kE_c d m q sq v with ⟨h, e⟩ | ⟨h1, h2, h3, h4, h5, h6, e⟩ | ⟨h1, h2, h3, h4, h5, h6, e⟩
  · simp only [e, true_or, if_true, Int.reduceEq, if_false]; exact sleast_1 d m q sq v dp s st n lo hi f u h
  · by_cases he : HE s st n lo hi f u = 1
    · simp only [e, he, or_true, if_true, Int.reduceEq, if_false]; exact sleast_2 d m q sq v dp s st n lo hi f u he
    · simp only [e, he, Int.reduceEq, or_self, if_true, if_false]; exact sleast_3 d m q sq v dp s st n lo hi f u h1 h2 h3 h4 h5 h6 he
  · rcases he_c s st n lo hi f u with he | he | he
    · simp only [e, he, or_true, if_true, Int.reduceEq, if_false]; exact sleast_2 d m q sq v dp s st n lo hi f u he
    · simp only [e, he, Int.reduceEq, or_self, if_true, if_false]; exact sleast_4 d m q sq v dp s st n lo hi f u h1 h2 h3 h4 h5 h6 he
    · simp only [e, he, Int.reduceEq, or_self, if_true, if_false]
      have b := needV_bd h1 h3 h6
      have b2 := hl_bd (s := s) (st := st) (n := n) (lo := lo) (hi := hi) (f := f) (u := u)
      exact sleast_0 d m q sq v dp s st n lo hi f u h1 h2 h3 h4 h5 h6 he b.1 b.2.1 b2.1 (by omega)

def dE (d m : Int) (q : Nat) (sq : Nat → Int) (s st : Int) (n : Nat) (lo hi : Nat → Int) (x v f u : Int) : Int := if isDp x = true then lE d m q sq v s st n lo hi f u else 1
def dB (d m : Int) (q : Nat) (sq : Nat → Int) (s st : Int) (n : Nat) (lo hi : Nat → Int) (x v f u : Int) : Bool := isDp x && (decide (lE d m q sq v s st n lo hi f u = 0) && decide (lN d m q sq v s st n lo hi f u ≤ x))

set_option maxRecDepth 100000 in
set_option maxHeartbeats 4000000 in
theorem kdeep_1 (d m : Int) (q : Nat) (sq : Nat → Int) (s st : Int) (n : Nat) (lo hi : Nat → Int) (x v f u : Int) (hx : isDp x = false) : CallsP Try.prog 36 [shipP d m q sq, tideP s st n lo hi, .one (.g (.int .i64 (x))), .one (.g (.int .i64 (v))), .one (.g (.int .i64 (f))), .one (.g (.int .i64 (u)))] (.tup [.one (.g (.bool false)), .one (.g (.int .i64 (1)))]) := by
  refine CallsP_of Try.func36 rfl (by rw [Try.ntmps36]; simp) ?_
  simp only [Try.ntmps36, List.map_cons, List.map_nil, PT.tv, argEnv, Nat.zero_add, Nat.reduceAdd]
  repeat' (first
    | (with_reducible refine AW_seq_k fun K hK => ?_)
    | ((first | (with_reducible refine And.intro ?_ ?_) | (with_reducible refine Need.mk ?_)); focus (first | exact True.intro | (with_reducible assumption) | omega | (refine ⟨?_, ?_⟩ <;> omega) | (intro _; first | exact True.intro | (with_reducible assumption) | omega) | (intros; (repeat' (first | exact True.intro | omega | (with_reducible assumption) | (with_reducible refine And.intro ?_ ?_))); done) | (simp (disch := omega) only [Bool.and_eq_true, Bool.or_eq_true, decide_eq_true_eq, bne_iff_ne, ne_eq] at *; first | done | omega | (intros; omega)) | (simp; done) | (simp; omega) | (simp +contextual; done) | (intro h; rw [h]; rfl) | (intros; simp_all; done)))
    | (with_reducible refine AW_skip ?_)
    | (with_reducible refine AW_exit ?_)
    | (with_reducible refine AW_ret ?_)
    | (with_reducible refine retK_n ?_)
    | (with_reducible refine retK_n' ?_)
    | (with_reducible refine retH_n rfl rfl rfl ?_)
    | (with_reducible refine retH_n' rfl rfl rfl ?_)
    | (with_reducible refine AW_condI ?_)
    | (with_reducible refine AW_block ?_)
    | ((with_reducible refine condN_t ?_ ?_) <;> (intro hc; (try simp only [Bool.and_eq_true, Bool.or_eq_true, Bool.not_eq_true', Bool.and_eq_false_iff, Bool.or_eq_false_iff, decide_eq_true_eq, decide_eq_false_iff_not, bne_iff_ne, beq_iff_eq, reduceCtorEq, bne_eq_false_iff_eq, beq_eq_false_iff_ne, Bool.not_eq_false', Int.not_le, Int.not_lt, Bool.not_not] at hc); (try (exfalso; first | contradiction | omega))))
    | (with_reducible refine AW_regionP 0 [0, 1, 2, 3, 4, 5] ?_)
    | (with_reducible refine AW_regionP 1 [2, 3, 4, 5, 6, 7] ?_)
    | (with_reducible refine AW_regionP 2 [] ?_)
    | (with_reducible refine AW_regionP 3 [2, 3, 4, 5, 6, 7] ?_)
    | (with_reducible refine AW_regionP 4 [2, 14, 15] ?_)
    | (refine callN_q (k := 75) fnok_75 (isDepth_p _) ?_ ?_)
    | ((fail_if_success (with_reducible show AW _ _ _ _)); simp (maxSteps := 2000000) only [go_sem, reduceIte, reduceCtorEq, Nat.reduceAdd, Nat.reduceLT, Nat.reduceLeDiff, Nat.reduceEqDiff, Nat.reduceMul, Nat.reduceSub, Nat.reduceBEq, Try.f36, fnok_75, ty_45, ty_24, zc_80, fo_80, pl_80_0, pl_80_1, pl_80_3, fnok_76, hx])
    | ((with_reducible refine hK _ ?_); clear hK K))

set_option maxRecDepth 100000 in
set_option maxHeartbeats 4000000 in
theorem kdeep_0 (d m : Int) (q : Nat) (sq : Nat → Int) (s st : Int) (n : Nat) (lo hi : Nat → Int) (x v f u : Int) (hx : isDp x = true) : CallsP Try.prog 36 [shipP d m q sq, tideP s st n lo hi, .one (.g (.int .i64 (x))), .one (.g (.int .i64 (v))), .one (.g (.int .i64 (f))), .one (.g (.int .i64 (u)))] (.tup [.one (.g (.bool (decide (lE d m q sq v s st n lo hi f u = 0) && decide (lN d m q sq v s st n lo hi f u ≤ x)))), .one (.g (.int .i64 (lE d m q sq v s st n lo hi f u)))]) := by
  refine CallsP_of Try.func36 rfl (by rw [Try.ntmps36]; simp) ?_
  simp only [Try.ntmps36, List.map_cons, List.map_nil, PT.tv, argEnv, Nat.zero_add, Nat.reduceAdd]
  repeat' (first
    | (with_reducible refine AW_seq_k fun K hK => ?_)
    | ((first | (with_reducible refine And.intro ?_ ?_) | (with_reducible refine Need.mk ?_)); focus (first | exact True.intro | (with_reducible assumption) | omega | (refine ⟨?_, ?_⟩ <;> omega) | (intro _; first | exact True.intro | (with_reducible assumption) | omega) | (intros; (repeat' (first | exact True.intro | omega | (with_reducible assumption) | (with_reducible refine And.intro ?_ ?_))); done) | (simp (disch := omega) only [Bool.and_eq_true, Bool.or_eq_true, decide_eq_true_eq, bne_iff_ne, ne_eq] at *; first | done | omega | (intros; omega)) | (simp; done) | (simp; omega) | (simp +contextual; done) | (intro h; rw [h]; rfl) | (intros; simp_all; done)))
    | (with_reducible refine AW_skip ?_)
    | (with_reducible refine AW_exit ?_)
    | (with_reducible refine AW_ret ?_)
    | (with_reducible refine retK_n ?_)
    | (with_reducible refine retK_n' ?_)
    | (with_reducible refine retH_n rfl rfl rfl ?_)
    | (with_reducible refine retH_n' rfl rfl rfl ?_)
    | (with_reducible refine AW_condI ?_)
    | (with_reducible refine AW_block ?_)
    | ((with_reducible refine condN_t ?_ ?_) <;> (intro hc; (try simp only [Bool.and_eq_true, Bool.or_eq_true, Bool.not_eq_true', Bool.and_eq_false_iff, Bool.or_eq_false_iff, decide_eq_true_eq, decide_eq_false_iff_not, bne_iff_ne, beq_iff_eq, reduceCtorEq, bne_eq_false_iff_eq, beq_eq_false_iff_ne, Bool.not_eq_false', Int.not_le, Int.not_lt, Bool.not_not] at hc); (try (exfalso; first | contradiction | omega))))
    | (with_reducible refine AW_regionP 0 [0, 1, 2, 3, 4, 5] ?_)
    | (with_reducible refine AW_regionP 1 [2, 3, 4, 5, 6, 7] ?_)
    | (with_reducible refine AW_regionP 2 [] ?_)
    | (with_reducible refine AW_regionP 3 [2, 3, 4, 5, 6, 7] ?_)
    | (with_reducible refine AW_regionP 4 [2, 14, 15] ?_)
    | (refine callN_q (k := 75) fnok_75 (isDepth_p _) ?_ ?_)
    | (refine callN_q (k := 76) fnok_76 (sleast_p _ _ _ _ _ _ _ _ _ _ _ _ _) ?_ ?_)
    | ((fail_if_success (with_reducible show AW _ _ _ _)); simp (maxSteps := 2000000) only [go_sem, reduceIte, reduceCtorEq, Nat.reduceAdd, Nat.reduceLT, Nat.reduceLeDiff, Nat.reduceEqDiff, Nat.reduceMul, Nat.reduceSub, Nat.reduceBEq, Try.f36, fnok_75, ty_45, ty_24, zc_80, fo_80, pl_80_0, pl_80_1, pl_80_3, fnok_76, hx])
    | ((with_reducible refine hK _ ?_); clear hK K))
  all_goals (refine Bool.eq_iff_iff.2 ?_; simp)

theorem kdeep_p (d m : Int) (q : Nat) (sq : Nat → Int) (s st : Int) (n : Nat) (lo hi : Nat → Int) (x v f u : Int) : CallsP Try.prog 36 [shipP d m q sq, tideP s st n lo hi, .one (.g (.int .i64 (x))), .one (.g (.int .i64 (v))), .one (.g (.int .i64 (f))), .one (.g (.int .i64 (u)))] (.tup [.one (.g (.bool (dB d m q sq s st n lo hi x v f u))), .one (.g (.int .i64 (dE d m q sq s st n lo hi x v f u)))]) := by
  unfold dE dB
  cases hx : isDp x with
  | false => exact kdeep_1 d m q sq s st n lo hi x v f u hx
  | true => exact kdeep_0 d m q sq s st n lo hi x v f u hx

set_option maxRecDepth 100000 in
set_option maxHeartbeats 4000000 in
theorem kleast_p (d m : Int) (q : Nat) (sq : Nat → Int) (s st : Int) (n : Nat) (lo hi : Nat → Int) (v f u : Int) : CallsP Try.prog 38 [shipP d m q sq, tideP s st n lo hi, .one (.g (.int .i64 (v))), .one (.g (.int .i64 (f))), .one (.g (.int .i64 (u)))] (.tup [.one (.g (.int .i64 (max (lN d m q sq v s st n lo hi f u) 0))), .one (.g (.int .i64 (lE d m q sq v s st n lo hi f u)))]) := by
  refine CallsP_of Try.func38 rfl (by rw [Try.ntmps38]; simp) ?_
  simp only [Try.ntmps38, List.map_cons, List.map_nil, PT.tv, argEnv, Nat.zero_add, Nat.reduceAdd]
  repeat' (first
    | (with_reducible refine AW_seq_k fun K hK => ?_)
    | ((first | (with_reducible refine And.intro ?_ ?_) | (with_reducible refine Need.mk ?_)); focus (first | exact True.intro | (with_reducible assumption) | omega | (refine ⟨?_, ?_⟩ <;> omega) | (intro _; first | exact True.intro | (with_reducible assumption) | omega) | (intros; (repeat' (first | exact True.intro | omega | (with_reducible assumption) | (with_reducible refine And.intro ?_ ?_))); done) | (simp (disch := omega) only [Bool.and_eq_true, Bool.or_eq_true, decide_eq_true_eq, bne_iff_ne, ne_eq] at *; first | done | omega | (intros; omega)) | (simp; done) | (simp; omega) | (simp +contextual; done) | (intro h; rw [h]; rfl) | (intros; simp_all; done)))
    | (with_reducible refine AW_skip ?_)
    | (with_reducible refine AW_exit ?_)
    | (with_reducible refine AW_ret ?_)
    | (with_reducible refine retK_n ?_)
    | (with_reducible refine retK_n' ?_)
    | (with_reducible refine retH_n rfl rfl rfl ?_)
    | (with_reducible refine retH_n' rfl rfl rfl ?_)
    | (with_reducible refine AW_condI ?_)
    | (with_reducible refine AW_block ?_)
    | ((with_reducible refine condN_t ?_ ?_) <;> (intro hc; (try simp only [Bool.and_eq_true, Bool.or_eq_true, Bool.not_eq_true', Bool.and_eq_false_iff, Bool.or_eq_false_iff, decide_eq_true_eq, decide_eq_false_iff_not, bne_iff_ne, beq_iff_eq, reduceCtorEq, bne_eq_false_iff_eq, beq_eq_false_iff_ne, Bool.not_eq_false', Int.not_le, Int.not_lt, Bool.not_not] at hc); (try (exfalso; first | contradiction | omega))))
    | (with_reducible refine AW_regionP 0 [0, 1, 2, 3, 4] ?_)
    | (with_reducible refine AW_regionP 1 [2, 3, 4, 5, 6] ?_)
    | (with_reducible refine AW_regionP 2 [12, 13] ?_)
    | (refine callN_q (k := 76) fnok_76 (sleast_p _ _ _ _ _ _ _ _ _ _ _ _ _) ?_ ?_)
    | ((fail_if_success (with_reducible show AW _ _ _ _)); simp (maxSteps := 2000000) only [go_sem, reduceIte, reduceCtorEq, Nat.reduceAdd, Nat.reduceLT, Nat.reduceLeDiff, Nat.reduceEqDiff, Nat.reduceMul, Nat.reduceSub, Nat.reduceBEq, Try.f38, ty_45, ty_24, zc_80, fo_80, pl_80_0, pl_80_1, pl_80_3, fnok_76])
    | ((with_reducible refine hK _ ?_); clear hK K))

end Go.Proofs.Ythfnmooeijneoaa
