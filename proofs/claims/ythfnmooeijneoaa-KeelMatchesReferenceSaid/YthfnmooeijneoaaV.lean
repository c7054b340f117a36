/- V: walks on abstract states. -/
import Derived.Test.YthfnmooeijneoaaU
import Derived.Test.YthfnmooeijneoaaM
set_option linter.unusedVariables false
set_option linter.unusedSimpArgs false
namespace Go.Proofs.Ythfnmooeijneoaa
open Go.RowKit Go.Sea
attribute [local go_sem] callK_N gf gk gdrop lkL setL lsF ltAll rdyL bodyF roundQ roundS loopQ loopS jumpOf inLs yV yA bAV zipPut purgeG List.tail_cons Option.isNone_none Option.isNone_some callGK_f callDK_f callDGK_f retN retHN blockA arun_nil arun_plain arun_guard plainF guardF guardB arunD_nil arunD_plain arunD_guard plainDF guardDF guardDB AS.ent Eff.noApp Eff.tgt ftF AV.refs TV.refs CV.refs LV.refs Op.operands Call.operands List.append_toArray List.push_toArray List.flatMap_cons List.flatMap_nil List.toList_toArray Option.toArray List.reverse_cons List.reverse_nil opF AS.ev constA lk AS.get AV.tv AV.nd AS.eff AS.put argEnv PT.tv PV.av AV.mbOf hset hget TV.cells dstOk thenA gB isB toB TV.bool? TV.int? intF loadF storeF fieldF indexF lenF sliceF optI appF minmaxF ipCells fillF repC partsF lvsF TV.lv LV.tv purgeE purgeC purgeH AV.purge CV.purge AV.has TV.has CV.has LV.has calleeF argsF tvsF toPT toIV toIVs toPTs toPV civ isIv iA bA List.map_cons List.map_nil List.length_nil List.length_cons List.getElem?_cons_zero List.getElem?_cons_succ List.getElem?_nil Option.getD_some Option.getD_none Option.bind_some Option.bind_none List.take_succ_cons List.take_zero List.drop_succ_cons List.drop_zero List.take_nil List.drop_nil List.cons_append List.nil_append List.append_nil List.getD_cons_zero List.getD_cons_succ Option.map_some Option.map_none Option.isSome_some Option.isSome_none List.size_toArray List.any_cons List.any_nil List.mem_cons if_true if_false ite_true ite_false cond_true cond_false Nat.zero_add Nat.add_zero Nat.sub_zero Nat.le_refl Nat.zero_mul Nat.mul_zero Nat.one_mul Nat.mul_one Int.toNat_zero Int.toNat_natCast Bool.or_false Bool.false_or Bool.or_true Bool.true_or Bool.and_true Bool.true_and Bool.and_false Bool.false_and beq_self_eq_true beq_true beq_false Bool.not_true Bool.not_false and_true true_and and_false false_and and_self imp_self Bool.cond_false_right Bool.cond_true_left implies_true forall_const true_implies false_implies Option.some.injEq Prod.mk.injEq ne_eq not_false_eq_true not_true_eq_false eq_self Nat.lt_irrefl Nat.not_lt_zero boF seaMin seaMax seaNat1 seaNat2 Value.bool.injEq Value.int.injEq srcF lstC TV.dp IV.eqv PT.eqv PV.eqv All2 keepE hupd resF tupA inlQ okL okGL okG nextL wkH wkC wkV nilA nilC AV.ok TV.ok CV.ok LV.ok okB forall_eq_or_imp forall_eq List.not_mem_nil List.mem_singleton true_or or_true or_false false_or exists_prop AV.t.injEq TV.one.injEq CV.iv.injEq IV.g.injEq TV.agg.injEq List.cons.injEq
theorem bo_4 : boD Try.prog 4 = true := by kernel_rfl
theorem fnok_14 : fnOk Try.prog 14 = true := by kernel_rfl
theorem fnok_20 : fnOk Try.prog 20 = true := by kernel_rfl
theorem fnok_23 : fnOk Try.prog 23 = true := by kernel_rfl
theorem fnok_31 : fnOk Try.prog 31 = true := by kernel_rfl
theorem fnok_37 : fnOk Try.prog 37 = true := by kernel_rfl
theorem fnok_39 : fnOk Try.prog 39 = true := by kernel_rfl
theorem fnok_41 : fnOk Try.prog 41 = true := by kernel_rfl
theorem fnok_43 : fnOk Try.prog 43 = true := by kernel_rfl
theorem fnok_45 : fnOk Try.prog 45 = true := by kernel_rfl

theorem kN_bd (d m : Int) (q : Nat) (sq : Nat → Int) (v : Int) : 0 ≤ kN d m q sq v ∧ kN d m q sq v ≤ 3000 := by
  unfold kN
  rcases kE_c d m q sq v with ⟨h, e⟩ | ⟨h1, h2, h3, h4, h5, h6, e⟩ | ⟨h1, h2, h3, h4, h5, h6, e⟩
  · rw [e, if_neg (by omega)]; omega
  · rw [e, if_neg (by omega)]; omega
  · rw [e, if_pos rfl]; have := needV_bd h1 h3 h6; omega
theorem lE_cc (d m : Int) (q : Nat) (sq : Nat → Int) (s st : Int) (n : Nat) (lo hi : Nat → Int) (v f u : Int) : ((kE d m q sq v = 1 ∨ HE s st n lo hi f u = 1) ∧ lE d m q sq v s st n lo hi f u = 1 ∧ lN d m q sq v s st n lo hi f u = 0) ∨ (kE d m q sq v = 3 ∧ HE s st n lo hi f u ≠ 1 ∧ lE d m q sq v s st n lo hi f u = 3 ∧ lN d m q sq v s st n lo hi f u = 0) ∨ (kE d m q sq v = 0 ∧ HE s st n lo hi f u = 4 ∧ lE d m q sq v s st n lo hi f u = 4 ∧ lN d m q sq v s st n lo hi f u = 0) ∨ (kE d m q sq v = 0 ∧ HE s st n lo hi f u = 0 ∧ lE d m q sq v s st n lo hi f u = 0 ∧ lN d m q sq v s st n lo hi f u = kN d m q sq v - HL s st n lo hi f u) := by
  unfold lN kN
  have a := he_c s st n lo hi f u
  unfold lE
  rcases kE_c d m q sq v with ⟨h, e⟩ | ⟨h1, h2, h3, h4, h5, h6, e⟩ | ⟨h1, h2, h3, h4, h5, h6, e⟩ <;> rw [e] <;> rcases a with a | a | a <;> rw [a] <;> simp

set_option maxRecDepth 100000 in
set_option maxHeartbeats 4000000 in
theorem rleast_p (d m : Int) (q : Nat) (sq : Nat → Int) (s st : Int) (n : Nat) (lo hi : Nat → Int) (v f u : Int) : CallsP Try.prog 39 [shipP d m q sq, tideP s st n lo hi, .one (.g (.int .i64 (v))), .one (.g (.int .i64 (f))), .one (.g (.int .i64 (u)))] (.tup [.one (.g (.int .i64 (max (lN d m q sq v s st n lo hi f u) 0))), .one (.g (.int .i64 (lE d m q sq v s st n lo hi f u)))]) := by
  have b1 := kN_bd d m q sq v
  have b2 := hl_bd (s := s) (st := st) (n := n) (lo := lo) (hi := hi) (f := f) (u := u)
  have hl := lE_cc d m q sq s st n lo hi v f u
  refine CallsP_of Try.func39 rfl (by rw [Try.ntmps39]; simp) ?_
  simp only [Try.ntmps39, List.map_cons, List.map_nil, PT.tv, argEnv, Nat.zero_add, Nat.reduceAdd]
  repeat' (first
    | (with_reducible refine AW_seq_k fun K hK => ?_)
    | ((first | (with_reducible refine And.intro ?_ ?_) | (with_reducible refine Need.mk ?_)); focus (first | exact True.intro | (with_reducible assumption) | omega | (refine ⟨?_, ?_⟩ <;> omega) | (intro _; first | exact True.intro | (with_reducible assumption) | omega) | (intros; (repeat' (first | exact True.intro | omega | (with_reducible assumption) | (with_reducible refine And.intro ?_ ?_))); done) | (simp (disch := omega) only [Bool.and_eq_true, Bool.or_eq_true, decide_eq_true_eq, bne_iff_ne, ne_eq] at *; first | done | omega | (intros; omega)) | (simp; done) | (simp; omega) | (simp +contextual; done) | (intros; simp_all; done)))
    | (with_reducible refine AW_skip ?_)
    | (with_reducible refine AW_exit ?_)
    | (with_reducible refine AW_ret ?_)
    | (with_reducible refine retK_n ?_)
    | (with_reducible refine retK_n' ?_)
    | (with_reducible refine retH_n rfl rfl rfl ?_)
    | (with_reducible refine retH_n' rfl rfl rfl ?_)
    | (with_reducible refine AW_condI ?_)
    | (with_reducible refine AW_block ?_)
    | ((with_reducible refine condN_t ?_ ?_) <;> (intro hc; (try simp only [Bool.and_eq_true, Bool.or_eq_true, Bool.not_eq_true', Bool.and_eq_false_iff, Bool.or_eq_false_iff, decide_eq_true_eq, decide_eq_false_iff_not, bne_iff_ne, beq_iff_eq, reduceCtorEq, bne_eq_false_iff_eq, beq_eq_false_iff_ne, Bool.not_eq_false', Int.not_le, Int.not_lt, Bool.not_not] at hc); (skip); (try (exfalso; first | contradiction | omega))))
    | (with_reducible refine AW_regionP 0 [0, 1, 2, 3, 4] ?_)
    | (with_reducible refine AW_regionP 1 [2, 3, 4, 5, 6] ?_)
    | (with_reducible refine AW_regionP 2 [3, 4, 6, 12, 13] ?_)
    | (with_reducible refine AW_regionP 3 [12, 13, 14, 15] ?_)
    | (with_reducible refine AW_regionP 4 [] ?_)
    | (with_reducible refine AW_regionP 5 [12, 13, 14, 15] ?_)
    | (with_reducible refine AW_regionP 6 [13] ?_)
    | (with_reducible refine AW_regionP 7 [12, 14, 15] ?_)
    | (with_reducible refine AW_regionP 8 [15] ?_)
    | (with_reducible refine AW_regionP 9 [12, 14] ?_)
    | (refine callN_q (k := 35) fnok_35 (rneed_p _ _ _ _ _) ?_ ?_)
    | (refine callN_q (k := 20) fnok_20 (rheight_p _ _ _ _ _ _ _) ?_ ?_)
    | ((fail_if_success (with_reducible show AW _ _ _ _)); simp (maxSteps := 2000000) only [go_sem, reduceIte, reduceCtorEq, Nat.reduceAdd, Nat.reduceLT, Nat.reduceLeDiff, Nat.reduceEqDiff, Nat.reduceMul, Nat.reduceSub, Nat.reduceBEq, Try.f39, ty_45, fnok_35, ty_24, fnok_20, zc_31, ty_31, of_31_0, ty_3])
    | ((fail_if_success (with_reducible show AW _ _ _ _)); simp (disch := omega) only [seaWrap, seaDiv, seaMod])
    | ((with_reducible refine hK _ ?_); clear hK K))
  all_goals omega

theorem dE_cc (d m : Int) (q : Nat) (sq : Nat → Int) (s st : Int) (n : Nat) (lo hi : Nat → Int) (x v f u : Int) : (isDp x = false ∧ dE d m q sq s st n lo hi x v f u = 1 ∧ dB d m q sq s st n lo hi x v f u = false) ∨ (isDp x = true ∧ 0 ≤ x ∧ dE d m q sq s st n lo hi x v f u = lE d m q sq v s st n lo hi f u ∧ (lE d m q sq v s st n lo hi f u ≠ 0 ∧ dB d m q sq s st n lo hi x v f u = false ∨ lE d m q sq v s st n lo hi f u = 0 ∧ dB d m q sq s st n lo hi x v f u = decide (max (lN d m q sq v s st n lo hi f u) 0 ≤ x))) := by
  unfold dE dB
  cases hx : isDp x with
  | false => simp
  | true =>
    have b := isDp_bd hx
    refine Or.inr ⟨rfl, b.1, rfl, ?_⟩
    by_cases h : lE d m q sq v s st n lo hi f u = 0
    · refine Or.inr ⟨h, ?_⟩
      rw [h]
      simp only [decide_true, Bool.true_and]
      exact decide_eq_decide.2 (by omega)
    · exact Or.inl ⟨h, by simp [h]⟩

set_option maxRecDepth 100000 in
set_option maxHeartbeats 4000000 in
theorem rdeep_p (d m : Int) (q : Nat) (sq : Nat → Int) (s st : Int) (n : Nat) (lo hi : Nat → Int) (x v f u : Int) : CallsP Try.prog 37 [shipP d m q sq, tideP s st n lo hi, .one (.g (.int .i64 (x))), .one (.g (.int .i64 (v))), .one (.g (.int .i64 (f))), .one (.g (.int .i64 (u)))] (.tup [.one (.g (.bool (dB d m q sq s st n lo hi x v f u))), .one (.g (.int .i64 (dE d m q sq s st n lo hi x v f u)))]) := by
  refine CallsP_of Try.func37 rfl (by rw [Try.ntmps37]; simp) ?_
  simp only [Try.ntmps37, List.map_cons, List.map_nil, PT.tv, argEnv, Nat.zero_add, Nat.reduceAdd]
  repeat' (first
    | (with_reducible refine AW_seq_k fun K hK => ?_)
    | ((first | (with_reducible refine And.intro ?_ ?_) | (with_reducible refine Need.mk ?_)); focus (first | exact True.intro | (with_reducible assumption) | omega | (refine ⟨?_, ?_⟩ <;> omega) | (intro _; first | exact True.intro | (with_reducible assumption) | omega) | (intros; (repeat' (first | exact True.intro | omega | (with_reducible assumption) | (with_reducible refine And.intro ?_ ?_))); done) | (simp (disch := omega) only [Bool.and_eq_true, Bool.or_eq_true, decide_eq_true_eq, bne_iff_ne, ne_eq] at *; first | done | omega | (intros; omega)) | (simp; done) | (simp; omega) | (simp +contextual; done) | (intros; simp_all; done)))
    | (with_reducible refine AW_skip ?_)
    | (with_reducible refine AW_exit ?_)
    | (with_reducible refine AW_ret ?_)
    | (with_reducible refine retK_n ?_)
    | (with_reducible refine retK_n' ?_)
    | (with_reducible refine retH_n rfl rfl rfl ?_)
    | (with_reducible refine retH_n' rfl rfl rfl ?_)
    | (with_reducible refine AW_condI ?_)
    | (with_reducible refine AW_block ?_)
    | ((with_reducible refine condN_t ?_ ?_) <;> (intro hc; (try simp only [Bool.and_eq_true, Bool.or_eq_true, Bool.not_eq_true', Bool.and_eq_false_iff, Bool.or_eq_false_iff, decide_eq_true_eq, decide_eq_false_iff_not, bne_iff_ne, beq_iff_eq, reduceCtorEq, bne_eq_false_iff_eq, beq_eq_false_iff_ne, Bool.not_eq_false', Int.not_le, Int.not_lt, Bool.not_not] at hc); (skip); (try (exfalso; first | contradiction | omega))))
    | (with_reducible refine AW_regionP 0 [0, 1, 2, 3, 4, 5] ?_)
    | (with_reducible refine AW_regionP 1 [2, 3, 4, 5, 6, 7] ?_)
    | (with_reducible refine AW_regionP 2 [2, 3, 4, 5, 6, 7, 14] ?_)
    | (with_reducible refine AW_regionP 3 [] ?_)
    | (with_reducible refine AW_regionP 4 [2, 3, 4, 5, 6, 7] ?_)
    | (with_reducible refine AW_regionP 5 [2, 15, 16] ?_)
    | (with_reducible refine AW_regionP 6 [16] ?_)
    | (with_reducible refine AW_regionP 7 [2, 15] ?_)
    | (refine callN_q (k := 46) fnok_46 (rDepth_p _) ?_ ?_)
    | (refine callN_q (k := 39) fnok_39 (rleast_p _ _ _ _ _ _ _ _ _ _ _ _) ?_ ?_)
    | ((fail_if_success (with_reducible show AW _ _ _ _)); simp (maxSteps := 2000000) only [go_sem, reduceIte, reduceCtorEq, Nat.reduceAdd, Nat.reduceLT, Nat.reduceLeDiff, Nat.reduceEqDiff, Nat.reduceMul, Nat.reduceSub, Nat.reduceBEq, Try.f37, fnok_46, ty_45, ty_24, fnok_39])
    | ((with_reducible refine hK _ ?_); clear hK K))
  all_goals (rcases dE_cc d m q sq s st n lo hi x v f u with ⟨a1, a2, a3⟩ | ⟨a1, a0, a2, ⟨a3, a4⟩ | ⟨a3, a4⟩⟩ <;> simp_all)

theorem rE_k (d m : Int) (q : Nat) (sq : Nat → Int) (v dp s st : Int) (n : Nat) (lo hi : Nat → Int) : ((isDp dp = false ∨ tval s st n lo hi = false ∨ kE d m q sq v = 1) ∧ rE d m q sq v dp s st n lo hi = 1) ∨ (isDp dp = true ∧ tval s st n lo hi = true ∧ kE d m q sq v = 3 ∧ rE d m q sq v dp s st n lo hi = 3) ∨ (isDp dp = true ∧ tval s st n lo hi = true ∧ kE d m q sq v = 0 ∧ rE d m q sq v dp s st n lo hi = 0 ∧ (0 ≤ dp ∧ dp ≤ 100000) ∧ kN d m q sq v = needV d m sq v) := by
  unfold rE rB kN kE
  cases a : kval d m q sq <;> cases b : isSp v <;> cases c : isDp dp <;> cases e : tval s st n lo hi <;> simp
  split
  · have := isDp_bd c; simp; omega
  · simp; exact Or.inl (by omega)

set_option maxRecDepth 100000 in
set_option maxHeartbeats 4000000 in
theorem rkwin_1 (d m : Int) (q : Nat) (sq : Nat → Int) (v dp s st : Int) (n : Nat) (lo hi : Nat → Int) (h : isDp dp = false ∨ tval s st n lo hi = false ∨ kE d m q sq v = 1) : CallsP Try.prog 43 [shipP d m q sq, tideP s st n lo hi, .one (.g (.int .i64 (dp))), .one (.g (.int .i64 (v)))] (.tup [.one (.lst 2 (([] : List (Int × Int))).length (spanF (L1 (([] : List (Int × Int)))) (L2 (([] : List (Int × Int)))))), .one (.g (.int .i64 (1)))]) := by
  refine CallsP_of Try.func43 rfl (by rw [Try.ntmps43]; simp) ?_
  simp only [Try.ntmps43, List.map_cons, List.map_nil, PT.tv, argEnv, Nat.zero_add, Nat.reduceAdd]
  repeat' (first
    | (with_reducible refine AW_seq_k fun K hK => ?_)
    | ((first | (with_reducible refine And.intro ?_ ?_) | (with_reducible refine Need.mk ?_)); focus (first | exact True.intro | (with_reducible assumption) | omega | (refine ⟨?_, ?_⟩ <;> omega) | (intro _; first | exact True.intro | (with_reducible assumption) | omega) | (intros; (repeat' (first | exact True.intro | omega | (with_reducible assumption) | (with_reducible refine And.intro ?_ ?_))); done) | (simp (disch := omega) only [Bool.and_eq_true, Bool.or_eq_true, decide_eq_true_eq, bne_iff_ne, ne_eq] at *; first | done | omega | (intros; omega)) | (simp; done) | (simp; omega) | (simp +contextual; done) | (intros; simp_all; done)))
    | (with_reducible refine AW_skip ?_)
    | (with_reducible refine AW_exit ?_)
    | (with_reducible refine AW_ret ?_)
    | (with_reducible refine retK_n ?_)
    | (with_reducible refine retK_n' ?_)
    | (with_reducible refine retH_n rfl rfl rfl ?_)
    | (with_reducible refine retH_n' rfl rfl rfl ?_)
    | (with_reducible refine AW_condI ?_)
    | (with_reducible refine AW_block ?_)
    | ((with_reducible refine condN_t ?_ ?_) <;> (intro hc; (try simp only [Bool.and_eq_true, Bool.or_eq_true, Bool.not_eq_true', Bool.and_eq_false_iff, Bool.or_eq_false_iff, decide_eq_true_eq, decide_eq_false_iff_not, bne_iff_ne, beq_iff_eq, reduceCtorEq, bne_eq_false_iff_eq, beq_eq_false_iff_ne, Bool.not_eq_false', Int.not_le, Int.not_lt, Bool.not_not] at hc); (skip); (try (exfalso; first | contradiction | omega))))
    | (with_reducible refine AW_regionP 0 [0, 1, 2, 3] ?_)
    | (with_reducible refine AW_regionP 1 [2, 3, 4, 5] ?_)
    | (with_reducible refine AW_regionP 2 [2, 3, 4, 5, 10] ?_)
    | (with_reducible refine AW_regionP 3 [2, 3, 4, 5, 10, 11] ?_)
    | (with_reducible refine AW_regionP 4 [2, 5, 10, 11, 12, 13] ?_)
    | (with_reducible refine AW_regionP 5 [] ?_)
    | (with_reducible refine AW_regionP 6 [2, 5, 12, 13] ?_)
    | (with_reducible refine AW_regionP 7 [13] ?_)
    | (with_reducible refine AW_regionP 8 [2, 5, 12] ?_)
    | (refine callN_q (k := 46) fnok_46 (rDepth_p _) ?_ ?_)
    | (refine callN_q (k := 17) fnok_17 (rvalid_p _ _ _ _ _) ?_ ?_)
    | (refine callN_q (k := 35) fnok_35 (rneed_p _ _ _ _ _) ?_ ?_)
    | ((fail_if_success (with_reducible show AW _ _ _ _)); simp (maxSteps := 2000000) only [go_sem, reduceIte, reduceCtorEq, Nat.reduceAdd, Nat.reduceLT, Nat.reduceLeDiff, Nat.reduceEqDiff, Nat.reduceMul, Nat.reduceSub, Nat.reduceBEq, Try.f43, fnok_46, ty_24, fnok_17, ty_45, fnok_35, fnok_21])
    | ((fail_if_success (with_reducible show AW _ _ _ _)); simp (disch := omega) only [seaWrap, seaDiv, seaMod])
    | ((with_reducible refine hK _ ?_); clear hK K))
  all_goals (first | omega | (simp_all; done) | exact ⟨⟨rfl, rfl⟩, rfl⟩ | skip)

set_option maxRecDepth 100000 in
set_option maxHeartbeats 4000000 in
theorem rkwin_3 (d m : Int) (q : Nat) (sq : Nat → Int) (v dp s st : Int) (n : Nat) (lo hi : Nat → Int) (h1 : isDp dp = true) (h2 : tval s st n lo hi = true) (h3 : kE d m q sq v = 3) : CallsP Try.prog 43 [shipP d m q sq, tideP s st n lo hi, .one (.g (.int .i64 (dp))), .one (.g (.int .i64 (v)))] (.tup [.one (.lst 2 (([] : List (Int × Int))).length (spanF (L1 (([] : List (Int × Int)))) (L2 (([] : List (Int × Int)))))), .one (.g (.int .i64 (3)))]) := by
  refine CallsP_of Try.func43 rfl (by rw [Try.ntmps43]; simp) ?_
  simp only [Try.ntmps43, List.map_cons, List.map_nil, PT.tv, argEnv, Nat.zero_add, Nat.reduceAdd]
  repeat' (first
    | (with_reducible refine AW_seq_k fun K hK => ?_)
    | ((first | (with_reducible refine And.intro ?_ ?_) | (with_reducible refine Need.mk ?_)); focus (first | exact True.intro | (with_reducible assumption) | omega | (refine ⟨?_, ?_⟩ <;> omega) | (intro _; first | exact True.intro | (with_reducible assumption) | omega) | (intros; (repeat' (first | exact True.intro | omega | (with_reducible assumption) | (with_reducible refine And.intro ?_ ?_))); done) | (simp (disch := omega) only [Bool.and_eq_true, Bool.or_eq_true, decide_eq_true_eq, bne_iff_ne, ne_eq] at *; first | done | omega | (intros; omega)) | (simp; done) | (simp; omega) | (simp +contextual; done) | (intros; simp_all; done)))
    | (with_reducible refine AW_skip ?_)
    | (with_reducible refine AW_exit ?_)
    | (with_reducible refine AW_ret ?_)
    | (with_reducible refine retK_n ?_)
    | (with_reducible refine retK_n' ?_)
    | (with_reducible refine retH_n rfl rfl rfl ?_)
    | (with_reducible refine retH_n' rfl rfl rfl ?_)
    | (with_reducible refine AW_condI ?_)
    | (with_reducible refine AW_block ?_)
    | ((with_reducible refine condN_t ?_ ?_) <;> (intro hc; (try simp only [Bool.and_eq_true, Bool.or_eq_true, Bool.not_eq_true', Bool.and_eq_false_iff, Bool.or_eq_false_iff, decide_eq_true_eq, decide_eq_false_iff_not, bne_iff_ne, beq_iff_eq, reduceCtorEq, bne_eq_false_iff_eq, beq_eq_false_iff_ne, Bool.not_eq_false', Int.not_le, Int.not_lt, Bool.not_not] at hc); (skip); (try (exfalso; first | contradiction | omega))))
    | (with_reducible refine AW_regionP 0 [0, 1, 2, 3] ?_)
    | (with_reducible refine AW_regionP 1 [2, 3, 4, 5] ?_)
    | (with_reducible refine AW_regionP 2 [2, 3, 4, 5, 10] ?_)
    | (with_reducible refine AW_regionP 3 [2, 3, 4, 5, 10, 11] ?_)
    | (with_reducible refine AW_regionP 4 [2, 5, 10, 11, 12, 13] ?_)
    | (with_reducible refine AW_regionP 5 [] ?_)
    | (with_reducible refine AW_regionP 6 [2, 5, 12, 13] ?_)
    | (with_reducible refine AW_regionP 7 [13] ?_)
    | (with_reducible refine AW_regionP 8 [2, 5, 12] ?_)
    | (refine callN_q (k := 46) fnok_46 (rDepth_p _) ?_ ?_)
    | (refine callN_q (k := 17) fnok_17 (rvalid_p _ _ _ _ _) ?_ ?_)
    | (refine callN_q (k := 35) fnok_35 (rneed_p _ _ _ _ _) ?_ ?_)
    | ((fail_if_success (with_reducible show AW _ _ _ _)); simp (maxSteps := 2000000) only [go_sem, reduceIte, reduceCtorEq, Nat.reduceAdd, Nat.reduceLT, Nat.reduceLeDiff, Nat.reduceEqDiff, Nat.reduceMul, Nat.reduceSub, Nat.reduceBEq, Try.f43, fnok_46, ty_24, fnok_17, ty_45, fnok_35, fnok_21, h1, h2, h3])
    | ((fail_if_success (with_reducible show AW _ _ _ _)); simp (disch := omega) only [seaWrap, seaDiv, seaMod])
    | ((with_reducible refine hK _ ?_); clear hK K))
  all_goals (first | omega | (simp_all; done) | exact ⟨⟨rfl, rfl⟩, rfl⟩ | skip)

set_option maxRecDepth 100000 in
set_option maxHeartbeats 4000000 in
theorem rkwin_0 (d m : Int) (q : Nat) (sq : Nat → Int) (v dp s st : Int) (n : Nat) (lo hi : Nat → Int) (h1 : isDp dp = true) (h2 : tval s st n lo hi = true) (h3 : kE d m q sq v = 0) (x0 : 0 ≤ dp) (x1 : dp ≤ 100000) (h4 : kN d m q sq v = needV d m sq v) (b0 : 0 ≤ needV d m sq v) (b1 : needV d m sq v ≤ 3000) : CallsP Try.prog 43 [shipP d m q sq, tideP s st n lo hi, .one (.g (.int .i64 (dp))), .one (.g (.int .i64 (v)))] (.tup [.one (.lst 2 (WS s st n lo hi (needV d m sq v - dp)).length (spanF (L1 (WS s st n lo hi (needV d m sq v - dp))) (L2 (WS s st n lo hi (needV d m sq v - dp))))), .one (.g (.int .i64 (WE s st n lo hi (needV d m sq v - dp))))]) := by
  refine CallsP_of Try.func43 rfl (by rw [Try.ntmps43]; simp) ?_
  simp only [Try.ntmps43, List.map_cons, List.map_nil, PT.tv, argEnv, Nat.zero_add, Nat.reduceAdd]
  repeat' (first
    | (with_reducible refine AW_seq_k fun K hK => ?_)
    | ((first | (with_reducible refine And.intro ?_ ?_) | (with_reducible refine Need.mk ?_)); focus (first | exact True.intro | (with_reducible assumption) | omega | (refine ⟨?_, ?_⟩ <;> omega) | (intro _; first | exact True.intro | (with_reducible assumption) | omega) | (intros; (repeat' (first | exact True.intro | omega | (with_reducible assumption) | (with_reducible refine And.intro ?_ ?_))); done) | (simp (disch := omega) only [Bool.and_eq_true, Bool.or_eq_true, decide_eq_true_eq, bne_iff_ne, ne_eq] at *; first | done | omega | (intros; omega)) | (simp; done) | (simp; omega) | (simp +contextual; done) | (intros; simp_all; done)))
    | (with_reducible refine AW_skip ?_)
    | (with_reducible refine AW_exit ?_)
    | (with_reducible refine AW_ret ?_)
    | (with_reducible refine retK_n ?_)
    | (with_reducible refine retK_n' ?_)
    | (with_reducible refine retH_n rfl rfl rfl ?_)
    | (with_reducible refine retH_n' rfl rfl rfl ?_)
    | (with_reducible refine AW_condI ?_)
    | (with_reducible refine AW_block ?_)
    | ((with_reducible refine condN_t ?_ ?_) <;> (intro hc; (try simp only [Bool.and_eq_true, Bool.or_eq_true, Bool.not_eq_true', Bool.and_eq_false_iff, Bool.or_eq_false_iff, decide_eq_true_eq, decide_eq_false_iff_not, bne_iff_ne, beq_iff_eq, reduceCtorEq, bne_eq_false_iff_eq, beq_eq_false_iff_ne, Bool.not_eq_false', Int.not_le, Int.not_lt, Bool.not_not] at hc); (skip); (try (exfalso; first | contradiction | omega))))
    | (with_reducible refine AW_regionP 0 [0, 1, 2, 3] ?_)
    | (with_reducible refine AW_regionP 1 [2, 3, 4, 5] ?_)
    | (with_reducible refine AW_regionP 2 [2, 3, 4, 5, 10] ?_)
    | (with_reducible refine AW_regionP 3 [2, 3, 4, 5, 10, 11] ?_)
    | (with_reducible refine AW_regionP 4 [2, 5, 10, 11, 12, 13] ?_)
    | (with_reducible refine AW_regionP 5 [] ?_)
    | (with_reducible refine AW_regionP 6 [2, 5, 12, 13] ?_)
    | (with_reducible refine AW_regionP 7 [13] ?_)
    | (with_reducible refine AW_regionP 8 [2, 5, 12] ?_)
    | (refine callN_q (k := 46) fnok_46 (rDepth_p _) ?_ ?_)
    | (refine callN_q (k := 17) fnok_17 (rvalid_p _ _ _ _ _) ?_ ?_)
    | (refine callN_q (k := 35) fnok_35 (rneed_p _ _ _ _ _) ?_ ?_)
    | (refine callN_q (k := 21) fnok_21 (rwindows_p _ _ _ _ _ _) ?_ ?_)
    | ((fail_if_success (with_reducible show AW _ _ _ _)); simp (maxSteps := 2000000) only [go_sem, reduceIte, reduceCtorEq, Nat.reduceAdd, Nat.reduceLT, Nat.reduceLeDiff, Nat.reduceEqDiff, Nat.reduceMul, Nat.reduceSub, Nat.reduceBEq, Try.f43, fnok_46, ty_24, fnok_17, ty_45, fnok_35, fnok_21, h1, h2, h3, h4])
    | ((fail_if_success (with_reducible show AW _ _ _ _)); simp (disch := omega) only [seaWrap, seaDiv, seaMod])
    | ((with_reducible refine hK _ ?_); clear hK K))
  all_goals (first | exact fun i o _ _ => IV.eqv_refl _ | skip)

theorem rkwin_p (d m : Int) (q : Nat) (sq : Nat → Int) (v dp s st : Int) (n : Nat) (lo hi : Nat → Int) : CallsP Try.prog 43 [shipP d m q sq, tideP s st n lo hi, .one (.g (.int .i64 (dp))), .one (.g (.int .i64 (v)))] (.tup [.one (.lst 2 (kWS d m q sq v dp s st n lo hi).length (spanF (L1 (kWS d m q sq v dp s st n lo hi)) (L2 (kWS d m q sq v dp s st n lo hi)))), .one (.g (.int .i64 (kWE d m q sq v dp s st n lo hi)))]) := by
  unfold kWS kWE
  rcases rE_k d m q sq v dp s st n lo hi with ⟨h, e⟩ | ⟨h1, h2, h3, e⟩ | ⟨h1, h2, h3, e, ⟨h5, h6⟩, h4⟩
  · have r := rkwin_1 d m q sq v dp s st n lo hi h
    simp only [e, Int.reduceEq, if_false] at r ⊢; exact r
  · have r := rkwin_3 d m q sq v dp s st n lo hi h1 h2 h3
    simp only [e, Int.reduceEq, if_false] at r ⊢; exact r
  · have b := kN_bd d m q sq v
    have r := rkwin_0 d m q sq v dp s st n lo hi h1 h2 h3 h5 h6 h4 (by omega) (by omega)
    simp only [e, if_true]; exact r

theorem kWE_k (d m : Int) (q : Nat) (sq : Nat → Int) (v dp s st : Int) (n : Nat) (lo hi : Nat → Int) : (rE d m q sq v dp s st n lo hi = 1 ∧ kWE d m q sq v dp s st n lo hi = 1) ∨ (rE d m q sq v dp s st n lo hi = 3 ∧ kWE d m q sq v dp s st n lo hi = 3) ∨ (rE d m q sq v dp s st n lo hi = 0 ∧ kWE d m q sq v dp s st n lo hi = 0 ∧ kN d m q sq v = needV d m sq v ∧ 0 ≤ dp ∧ dp ≤ 100000) := by
  unfold kWE
  rcases rE_k d m q sq v dp s st n lo hi with ⟨h, e⟩ | ⟨h1, h2, h3, e⟩ | ⟨h1, h2, h3, e, ⟨h5, h6⟩, h4⟩
  · simp [e]
  · simp [e]
  · have b := kN_bd d m q sq v
    have := we_0 (need := needV d m sq v - dp) h2 (decide_eq_true (by omega))
    simp [e, this, h4]; omega

set_option maxRecDepth 100000 in
set_option maxHeartbeats 4000000 in
theorem rkleave_1 (d m : Int) (q : Nat) (sq : Nat → Int) (v dp s st : Int) (n : Nat) (lo hi : Nat → Int) (f long : Int) (h : (kWE d m q sq v dp s st n lo hi = 1 ∨ tm f = false) ∨ tm long = false) : CallsP Try.prog 45 [shipP d m q sq, tideP s st n lo hi, .one (.g (.int .i64 (dp))), .one (.g (.int .i64 (v))), .one (.g (.int .i64 (f))), .one (.g (.int .i64 (long)))] (.tup [.one (.g (.int .i64 (0))), .one (.g (.int .i64 (1)))]) := by
  refine CallsP_of Try.func45 rfl (by rw [Try.ntmps45]; simp) ?_
  simp only [Try.ntmps45, List.map_cons, List.map_nil, PT.tv, argEnv, Nat.zero_add, Nat.reduceAdd]
  repeat' (first
    | (with_reducible refine AW_seq_k fun K hK => ?_)
    | ((first | (with_reducible refine And.intro ?_ ?_) | (with_reducible refine Need.mk ?_)); focus (first | exact True.intro | (with_reducible assumption) | omega | (refine ⟨?_, ?_⟩ <;> omega) | (intro _; first | exact True.intro | (with_reducible assumption) | omega) | (intros; (repeat' (first | exact True.intro | omega | (with_reducible assumption) | (with_reducible refine And.intro ?_ ?_))); done) | (simp (disch := omega) only [Bool.and_eq_true, Bool.or_eq_true, decide_eq_true_eq, bne_iff_ne, ne_eq] at *; first | done | omega | (intros; omega)) | (simp; done) | (simp; omega) | (simp +contextual; done) | (intros; simp_all; done)))
    | (with_reducible refine AW_skip ?_)
    | (with_reducible refine AW_exit ?_)
    | (with_reducible refine AW_ret ?_)
    | (with_reducible refine retK_n ?_)
    | (with_reducible refine retK_n' ?_)
    | (with_reducible refine retH_n rfl rfl rfl ?_)
    | (with_reducible refine retH_n' rfl rfl rfl ?_)
    | (with_reducible refine AW_condI ?_)
    | (with_reducible refine AW_block ?_)
    | ((with_reducible refine condN_t ?_ ?_) <;> (intro hc; (try simp only [Bool.and_eq_true, Bool.or_eq_true, Bool.not_eq_true', Bool.and_eq_false_iff, Bool.or_eq_false_iff, decide_eq_true_eq, decide_eq_false_iff_not, bne_iff_ne, beq_iff_eq, reduceCtorEq, bne_eq_false_iff_eq, beq_eq_false_iff_ne, Bool.not_eq_false', Int.not_le, Int.not_lt, Bool.not_not] at hc); (skip); (try (exfalso; first | contradiction | omega))))
    | (with_reducible refine AW_regionP 0 [0, 1, 2, 3, 4, 5] ?_)
    | (with_reducible refine AW_regionP 1 [2, 3, 4, 5, 6, 7] ?_)
    | (with_reducible refine AW_regionP 2 [2, 3, 4, 5, 6, 7, 15] ?_)
    | (with_reducible refine AW_regionP 3 [2, 3, 4, 5, 6, 7, 15, 16] ?_)
    | (with_reducible refine AW_regionP 4 [2, 3, 4, 5, 6, 7, 15, 16, 17] ?_)
    | (with_reducible refine AW_regionP 5 [] ?_)
    | (with_reducible refine AW_regionP 6 [2, 3, 4, 5, 6, 7, 15] ?_)
    | (with_reducible refine AW_regionP 7 [15] ?_)
    | (with_reducible refine AW_regionP 8 [2, 3, 4, 5, 6, 7] ?_)
    | (with_reducible refine AW_regionP 9 [2, 4, 5, 7, 18] ?_)
    | (refine callN_q (k := 43) fnok_43 (rkwin_p _ _ _ _ _ _ _ _ _ _ _) ?_ ?_)
    | (refine callN_q (k := 35) fnok_35 (rneed_p _ _ _ _ _) ?_ ?_)
    | (refine callN_q (k := 50) fnok_50 (rTime_p _) ?_ ?_)
    | (refine callN_q (k := 23) fnok_23 (rnext_p _ _ _ _ _ _ _ _) ?_ ?_)
    | ((fail_if_success (with_reducible show AW _ _ _ _)); simp (maxSteps := 2000000) only [go_sem, reduceIte, reduceCtorEq, Nat.reduceAdd, Nat.reduceLT, Nat.reduceLeDiff, Nat.reduceEqDiff, Nat.reduceMul, Nat.reduceSub, Nat.reduceBEq, Try.f45, ty_45, ty_24, fnok_43, fnok_50, fnok_35, fnok_23])
    | ((fail_if_success (with_reducible show AW _ _ _ _)); simp (disch := omega) only [seaWrap, seaDiv, seaMod])
    | ((with_reducible refine hK _ ?_); clear hK K))
  all_goals (first | omega | (simp_all; done) | skip)

set_option maxRecDepth 100000 in
set_option maxHeartbeats 4000000 in
theorem rkleave_3 (d m : Int) (q : Nat) (sq : Nat → Int) (v dp s st : Int) (n : Nat) (lo hi : Nat → Int) (f long : Int) (h1 : kWE d m q sq v dp s st n lo hi = 3) (h2 : tm f = true) (h3 : tm long = true) : CallsP Try.prog 45 [shipP d m q sq, tideP s st n lo hi, .one (.g (.int .i64 (dp))), .one (.g (.int .i64 (v))), .one (.g (.int .i64 (f))), .one (.g (.int .i64 (long)))] (.tup [.one (.g (.int .i64 (0))), .one (.g (.int .i64 (3)))]) := by
  refine CallsP_of Try.func45 rfl (by rw [Try.ntmps45]; simp) ?_
  simp only [Try.ntmps45, List.map_cons, List.map_nil, PT.tv, argEnv, Nat.zero_add, Nat.reduceAdd]
  repeat' (first
    | (with_reducible refine AW_seq_k fun K hK => ?_)
    | ((first | (with_reducible refine And.intro ?_ ?_) | (with_reducible refine Need.mk ?_)); focus (first | exact True.intro | (with_reducible assumption) | omega | (refine ⟨?_, ?_⟩ <;> omega) | (intro _; first | exact True.intro | (with_reducible assumption) | omega) | (intros; (repeat' (first | exact True.intro | omega | (with_reducible assumption) | (with_reducible refine And.intro ?_ ?_))); done) | (simp (disch := omega) only [Bool.and_eq_true, Bool.or_eq_true, decide_eq_true_eq, bne_iff_ne, ne_eq] at *; first | done | omega | (intros; omega)) | (simp; done) | (simp; omega) | (simp +contextual; done) | (intros; simp_all; done)))
    | (with_reducible refine AW_skip ?_)
    | (with_reducible refine AW_exit ?_)
    | (with_reducible refine AW_ret ?_)
    | (with_reducible refine retK_n ?_)
    | (with_reducible refine retK_n' ?_)
    | (with_reducible refine retH_n rfl rfl rfl ?_)
    | (with_reducible refine retH_n' rfl rfl rfl ?_)
    | (with_reducible refine AW_condI ?_)
    | (with_reducible refine AW_block ?_)
    | ((with_reducible refine condN_t ?_ ?_) <;> (intro hc; (try simp only [Bool.and_eq_true, Bool.or_eq_true, Bool.not_eq_true', Bool.and_eq_false_iff, Bool.or_eq_false_iff, decide_eq_true_eq, decide_eq_false_iff_not, bne_iff_ne, beq_iff_eq, reduceCtorEq, bne_eq_false_iff_eq, beq_eq_false_iff_ne, Bool.not_eq_false', Int.not_le, Int.not_lt, Bool.not_not] at hc); (skip); (try (exfalso; first | contradiction | omega))))
    | (with_reducible refine AW_regionP 0 [0, 1, 2, 3, 4, 5] ?_)
    | (with_reducible refine AW_regionP 1 [2, 3, 4, 5, 6, 7] ?_)
    | (with_reducible refine AW_regionP 2 [2, 3, 4, 5, 6, 7, 15] ?_)
    | (with_reducible refine AW_regionP 3 [2, 3, 4, 5, 6, 7, 15, 16] ?_)
    | (with_reducible refine AW_regionP 4 [2, 3, 4, 5, 6, 7, 15, 16, 17] ?_)
    | (with_reducible refine AW_regionP 5 [] ?_)
    | (with_reducible refine AW_regionP 6 [2, 3, 4, 5, 6, 7, 15] ?_)
    | (with_reducible refine AW_regionP 7 [15] ?_)
    | (with_reducible refine AW_regionP 8 [2, 3, 4, 5, 6, 7] ?_)
    | (with_reducible refine AW_regionP 9 [2, 4, 5, 7, 18] ?_)
    | (refine callN_q (k := 43) fnok_43 (rkwin_p _ _ _ _ _ _ _ _ _ _ _) ?_ ?_)
    | (refine callN_q (k := 35) fnok_35 (rneed_p _ _ _ _ _) ?_ ?_)
    | (refine callN_q (k := 50) fnok_50 (rTime_p _) ?_ ?_)
    | (refine callN_q (k := 23) fnok_23 (rnext_p _ _ _ _ _ _ _ _) ?_ ?_)
    | ((fail_if_success (with_reducible show AW _ _ _ _)); simp (maxSteps := 2000000) only [go_sem, reduceIte, reduceCtorEq, Nat.reduceAdd, Nat.reduceLT, Nat.reduceLeDiff, Nat.reduceEqDiff, Nat.reduceMul, Nat.reduceSub, Nat.reduceBEq, Try.f45, ty_45, ty_24, fnok_43, fnok_50, fnok_35, fnok_23, h1, h2, h3])
    | ((fail_if_success (with_reducible show AW _ _ _ _)); simp (disch := omega) only [seaWrap, seaDiv, seaMod])
    | ((with_reducible refine hK _ ?_); clear hK K))
  all_goals (first | omega | (simp_all; done) | skip)

set_option maxRecDepth 100000 in
set_option maxHeartbeats 4000000 in
theorem rkleave_0 (d m : Int) (q : Nat) (sq : Nat → Int) (v dp s st : Int) (n : Nat) (lo hi : Nat → Int) (f long : Int) (h1 : kWE d m q sq v dp s st n lo hi = 0) (h2 : tm f = true) (h3 : tm long = true) (h4 : kN d m q sq v = needV d m sq v) (x0 : 0 ≤ dp) (x1 : dp ≤ 100000) (b0 : 0 ≤ needV d m sq v) (b1 : needV d m sq v ≤ 3000) : CallsP Try.prog 45 [shipP d m q sq, tideP s st n lo hi, .one (.g (.int .i64 (dp))), .one (.g (.int .i64 (v))), .one (.g (.int .i64 (f))), .one (.g (.int .i64 (long)))] (.tup [.one (.g (.int .i64 (NV s st n lo hi (needV d m sq v - dp) f long))), .one (.g (.int .i64 (NE s st n lo hi (needV d m sq v - dp) f long)))]) := by
  refine CallsP_of Try.func45 rfl (by rw [Try.ntmps45]; simp) ?_
  simp only [Try.ntmps45, List.map_cons, List.map_nil, PT.tv, argEnv, Nat.zero_add, Nat.reduceAdd]
  repeat' (first
    | (with_reducible refine AW_seq_k fun K hK => ?_)
    | ((first | (with_reducible refine And.intro ?_ ?_) | (with_reducible refine Need.mk ?_)); focus (first | exact True.intro | (with_reducible assumption) | omega | (refine ⟨?_, ?_⟩ <;> omega) | (intro _; first | exact True.intro | (with_reducible assumption) | omega) | (intros; (repeat' (first | exact True.intro | omega | (with_reducible assumption) | (with_reducible refine And.intro ?_ ?_))); done) | (simp (disch := omega) only [Bool.and_eq_true, Bool.or_eq_true, decide_eq_true_eq, bne_iff_ne, ne_eq] at *; first | done | omega | (intros; omega)) | (simp; done) | (simp; omega) | (simp +contextual; done) | (intros; simp_all; done)))
    | (with_reducible refine AW_skip ?_)
    | (with_reducible refine AW_exit ?_)
    | (with_reducible refine AW_ret ?_)
    | (with_reducible refine retK_n ?_)
    | (with_reducible refine retK_n' ?_)
    | (with_reducible refine retH_n rfl rfl rfl ?_)
    | (with_reducible refine retH_n' rfl rfl rfl ?_)
    | (with_reducible refine AW_condI ?_)
    | (with_reducible refine AW_block ?_)
    | ((with_reducible refine condN_t ?_ ?_) <;> (intro hc; (try simp only [Bool.and_eq_true, Bool.or_eq_true, Bool.not_eq_true', Bool.and_eq_false_iff, Bool.or_eq_false_iff, decide_eq_true_eq, decide_eq_false_iff_not, bne_iff_ne, beq_iff_eq, reduceCtorEq, bne_eq_false_iff_eq, beq_eq_false_iff_ne, Bool.not_eq_false', Int.not_le, Int.not_lt, Bool.not_not] at hc); (skip); (try (exfalso; first | contradiction | omega))))
    | (with_reducible refine AW_regionP 0 [0, 1, 2, 3, 4, 5] ?_)
    | (with_reducible refine AW_regionP 1 [2, 3, 4, 5, 6, 7] ?_)
    | (with_reducible refine AW_regionP 2 [2, 3, 4, 5, 6, 7, 15] ?_)
    | (with_reducible refine AW_regionP 3 [2, 3, 4, 5, 6, 7, 15, 16] ?_)
    | (with_reducible refine AW_regionP 4 [2, 3, 4, 5, 6, 7, 15, 16, 17] ?_)
    | (with_reducible refine AW_regionP 5 [] ?_)
    | (with_reducible refine AW_regionP 6 [2, 3, 4, 5, 6, 7, 15] ?_)
    | (with_reducible refine AW_regionP 7 [15] ?_)
    | (with_reducible refine AW_regionP 8 [2, 3, 4, 5, 6, 7] ?_)
    | (with_reducible refine AW_regionP 9 [2, 4, 5, 7, 18] ?_)
    | (refine callN_q (k := 43) fnok_43 (rkwin_p _ _ _ _ _ _ _ _ _ _ _) ?_ ?_)
    | (refine callN_q (k := 35) fnok_35 (rneed_p _ _ _ _ _) ?_ ?_)
    | (refine callN_q (k := 50) fnok_50 (rTime_p _) ?_ ?_)
    | (refine callN_q (k := 23) fnok_23 (rnext_p _ _ _ _ _ _ _ _) ?_ ?_)
    | ((fail_if_success (with_reducible show AW _ _ _ _)); simp (maxSteps := 2000000) only [go_sem, reduceIte, reduceCtorEq, Nat.reduceAdd, Nat.reduceLT, Nat.reduceLeDiff, Nat.reduceEqDiff, Nat.reduceMul, Nat.reduceSub, Nat.reduceBEq, Try.f45, ty_45, ty_24, fnok_43, fnok_50, fnok_35, fnok_23, h1, h2, h3, h4])
    | ((fail_if_success (with_reducible show AW _ _ _ _)); simp (disch := omega) only [seaWrap, seaDiv, seaMod])
    | ((with_reducible refine hK _ ?_); clear hK K))
  all_goals (first | omega | (simp_all; done) | skip)

theorem rkleave_p (d m : Int) (q : Nat) (sq : Nat → Int) (v dp s st : Int) (n : Nat) (lo hi : Nat → Int) (f long : Int) : CallsP Try.prog 45 [shipP d m q sq, tideP s st n lo hi, .one (.g (.int .i64 (dp))), .one (.g (.int .i64 (v))), .one (.g (.int .i64 (f))), .one (.g (.int .i64 (long)))] (.tup [.one (.g (.int .i64 (vV d m q sq v dp s st n lo hi f long))), .one (.g (.int .i64 (vE d m q sq v dp s st n lo hi f long)))]) := by
  unfold vV vE
  cases hf : tm f with
  | false =>
    simp only [true_or, or_true, if_true]
    exact rkleave_1 d m q sq v dp s st n lo hi f long (Or.inl (Or.inr hf))
  | true =>
    cases hl : tm long with
    | false =>
      simp only [or_true, if_true]
      exact rkleave_1 d m q sq v dp s st n lo hi f long (Or.inr hl)
    | true =>
      rcases kWE_k d m q sq v dp s st n lo hi with ⟨e, h⟩ | ⟨e, h⟩ | ⟨e, h, h4, h5, h6⟩
      · simp only [e, true_or, if_true]; exact rkleave_1 d m q sq v dp s st n lo hi f long (Or.inl (Or.inl h))
      · simp only [e, Int.reduceEq, Bool.true_eq_false, or_self, if_false]; exact rkleave_3 d m q sq v dp s st n lo hi f long h hf hl
      · have b := kN_bd d m q sq v
        simp only [e, Int.reduceEq, Bool.true_eq_false, or_self, if_false, if_true]
        exact rkleave_0 d m q sq v dp s st n lo hi f long h hf hl h4 h5 h6 (by omega) (by omega)

theorem rneed_k (d m : Int) (q : Nat) (sq : Nat → Int) (v : Int) (hk : kval d m q sq = true) (h0 : 0 ≤ v) (h1 : v ≤ 100 * q) : CallsP Try.prog 35 [shipP d m q sq, .one (.g (.int .i64 (v)))] (.tup [.one (.g (.int .i64 (needV d m sq v))), .one (.g (.int .i64 (0)))]) := by
  have r := rneed_p d m q sq v
  have := (kval_kv hk).q1
  rw [kN_v hk h0 h1, kE_0 ⟨hk, decide_eq_true (by omega)⟩ h1] at r
  exact r
theorem rf_hi {d m : Int} {q : Nat} {sq : Nat → Int} {hd : Int} {k : Nat} (h : ∀ v : Nat, k ≤ v → v ≤ 100 * q → hd < needV d m sq (v : Int)) (h1 : hd < needV d m sq ((k : Int) - 1)) (hk : 0 < k) : ∀ v : Nat, k - 1 ≤ v → v ≤ 100 * q → hd < needV d m sq (v : Int) := fun v hv hq => by
  by_cases e : v = k - 1
  · subst e; rw [show (((k - 1 : Nat) : Int)) = (k : Int) - 1 by omega]; exact h1
  · exact h v (by omega) hq
theorem rf_bd {d m : Int} {q : Nat} {sq : Nat → Int} (hk : kval d m q sq = true) {k : Nat} (hq : k ≤ 100 * q + 1) : k = 0 ∨ (0 < k ∧ 0 ≤ needV d m sq ((k : Int) - 1) ∧ needV d m sq ((k : Int) - 1) ≤ 3000) := by
  rcases Nat.eq_zero_or_pos k with h | h
  · exact Or.inl h
  · have := needV_bd hk (v := (k : Int) - 1) (by omega) (by omega)
    exact Or.inr ⟨h, this.1, this.2.1⟩
theorem rf_y {d m : Int} {q : Nat} {sq : Nat → Int} (hk : kval d m q sq = true) {hd : Int} {k : Nat} (hq : k ≤ 100 * q + 1) (h0 : 0 < k) (h : needV d m sq ((k : Int) - 1) ≤ hd) (h2 : ∀ v : Nat, k ≤ v → v ≤ 100 * q → hd < needV d m sq (v : Int)) : fC d m q sq hd = k := by
  refine fC_eq hq (fun v hv => ?_) h2
  have := fst_lo hk (hd := hd) (k := k - 1) (by omega) (by rw [show (((k - 1 : Nat) : Int)) = (k : Int) - 1 by omega]; exact h) v (by omega)
  exact this

set_option maxRecDepth 100000 in
set_option maxHeartbeats 4000000 in
theorem rfast_0 (d m : Int) (q : Nat) (sq : Nat → Int) (h x : Int) (hk : kval d m q sq = true) (hx : isDp x = true) (hx0 : 0 ≤ x) (hx1 : x ≤ 100000) (hh0 : -100000 ≤ h) (hh1 : h ≤ 100000) (q1 : q ≤ 20) : CallsP Try.prog 41 [shipP d m q sq, .one (.g (.int .i64 (h))), .one (.g (.int .i64 (x)))] (.tup [.one (.g (.int .i64 (if fC d m q sq (h + x) = 0 then 0 else (fC d m q sq (h + x) : Int) - 1))), .one (.g (.int .i64 (if fC d m q sq (h + x) = 0 then 4 else 0)))]) := by
  refine CallsP_of Try.func41 rfl (by rw [Try.ntmps41]; simp) ?_
  simp only [Try.ntmps41, List.map_cons, List.map_nil, PT.tv, argEnv, Nat.zero_add, Nat.reduceAdd]
  repeat' (first
    | (with_reducible refine AW_seq_k fun K hK => ?_)
    | ((first | (with_reducible refine And.intro ?_ ?_) | (with_reducible refine Need.mk ?_)); focus (first | exact True.intro | (with_reducible assumption) | omega | (refine ⟨?_, ?_⟩ <;> omega) | (intro _; first | exact True.intro | (with_reducible assumption) | omega) | (intros; (repeat' (first | exact True.intro | omega | (with_reducible assumption) | (with_reducible refine And.intro ?_ ?_))); done) | (simp (disch := omega) only [Bool.and_eq_true, Bool.or_eq_true, decide_eq_true_eq, bne_iff_ne, ne_eq] at *; first | done | omega | (intros; omega)) | (simp; done) | (simp; omega) | (simp +contextual; done) | (intros; simp_all; done)))
    | (with_reducible refine AW_skip ?_)
    | (with_reducible refine AW_exit ?_)
    | (with_reducible refine AW_ret ?_)
    | (with_reducible refine retK_n ?_)
    | (with_reducible refine retK_n' ?_)
    | (with_reducible refine retH_n rfl rfl rfl ?_)
    | (with_reducible refine retH_n' rfl rfl rfl ?_)
    | (with_reducible refine AW_condI ?_)
    | (with_reducible refine AW_block ?_)
    | ((with_reducible refine condN_t ?_ ?_) <;> (intro hc; (try simp only [Bool.and_eq_true, Bool.or_eq_true, Bool.not_eq_true', Bool.and_eq_false_iff, Bool.or_eq_false_iff, decide_eq_true_eq, decide_eq_false_iff_not, bne_iff_ne, beq_iff_eq, reduceCtorEq, bne_eq_false_iff_eq, beq_eq_false_iff_ne, Bool.not_eq_false', Int.not_le, Int.not_lt, Bool.not_not] at hc); (skip); (try (exfalso; first | contradiction | omega))))
    | (with_reducible refine AW_regionP 0 [0, 1, 2] ?_)
    | (with_reducible refine AW_regionP 1 [1, 2, 3] ?_)
    | (with_reducible refine AW_regionP 2 [1, 2, 3, 8] ?_)
    | (with_reducible refine AW_regionP 3 [1, 2, 3, 8, 9] ?_)
    | (with_reducible refine AW_regionP 4 [] ?_)
    | (with_reducible refine AW_regionP 5 [1, 2, 3] ?_)
    | (with_reducible refine AW_regionP 6 [1, 2, 3, 10] ?_)
    | (with_reducible refine AW_regionP 7 [1, 2, 3, 10] ?_)
    | (with_reducible refine AW_regionP 8 [1, 2, 3, 10] ?_)
    | (with_reducible refine AW_regionP 9 [1, 2, 3, 10, 11] ?_)
    | (with_reducible refine AW_regionP 10 [10] ?_)
    | (with_reducible refine AW_regionP 11 [] ?_)
    | (refine callN_q (k := 33) fnok_33 (rkvalid_p _ _ _ _) ?_ ?_)
    | (refine callN_q (k := 46) fnok_46 (rDepth_p _) ?_ ?_)
    | (refine callN_q (k := 35) fnok_35 (rneed_k _ _ _ _ _ hk (by omega) (by omega)) ?_ ?_)
    | ((with_reducible refine AW_loopQ (c := (Code.seq (Code.seq (Code.region 6 _ _) _) _)) (ι := Nat) [1, 2, 3] (fun k => [(10, iA .i64 ((k : Int) - 1))]) (fun k => []) (fun k => k ≤ 100 * q + 1 ∧ (∀ v : Nat, k ≤ v → v ≤ 100 * q → h + x < needV d m sq (v : Int))) (fun k => k) (100 * q + 1) ?lg ?l1 ?l2 ?li ?lr); (case' lg => rintro k _); (case' li => try (exact ⟨Nat.le_refl _, fun v hv hq => by omega⟩)); (case' lr => rintro k ⟨h1, h2⟩ KR hR6; rcases rf_bd (d := d) (m := m) (sq := sq) hk h1 with hz | ⟨hz, w1, w2⟩; simp only [keepE, hupd, hset, lk, if_true, if_false, Nat.reduceEqDiff, reduceIte, List.cons_append, List.nil_append, hk, hx]))
    | ((with_reducible refine hR6 _ (k - 1) ?_); (try clear hR6 KR))
    | ((with_reducible refine Told.mk ?_); simp only [go_sem, reduceIte, reduceCtorEq, Nat.reduceAdd, Nat.reduceLT, Nat.reduceLeDiff, Nat.reduceEqDiff, Nat.reduceMul, Nat.reduceSub, Nat.reduceBEq, hk, hx] <;> (first | exact True.intro | ((try simp (disch := omega) only [seaWrap, Int.natCast_add, Int.cast_ofNat_Int, and_true, true_and, and_self]); (repeat' (first | exact True.intro | omega | (with_reducible assumption) | (with_reducible refine And.intro ?_ ?_) | (exact rf_hi (by assumption) (by assumption) (by assumption)))); done) | (refine Stuck.out ?_)))
    | ((fail_if_success (with_reducible show AW _ _ _ _)); simp (maxSteps := 2000000) only [go_sem, reduceIte, reduceCtorEq, Nat.reduceAdd, Nat.reduceLT, Nat.reduceLeDiff, Nat.reduceEqDiff, Nat.reduceMul, Nat.reduceSub, Nat.reduceBEq, Try.f41, ty_45, fnok_33, fnok_46, of_45_2, ty_43, le_43, fnok_35, hk, hx])
    | ((fail_if_success (with_reducible show AW _ _ _ _)); simp (disch := omega) only [seaWrap, seaDiv, seaMod])
    | ((with_reducible refine hK _ ?_); clear hK K)
    | (with_reducible apply_assumption -exfalso))
  all_goals (first | (have e := rf_y hk h1 (by assumption) (by assumption) h2; rw [e]; split <;> omega) | (have e := fC_eq (d := d) (m := m) (q := q) (sq := sq) (hd := h + x) (i := 0) (by omega) (fun v hv => absurd hv (Nat.not_lt_zero _)) (fun v hv hq => h2 v (by omega) hq); rw [e]; simp))

theorem rfast_p (d m : Int) (q : Nat) (sq : Nat → Int) (h x : Int) : CallsP Try.prog 41 [shipP d m q sq, .one (.g (.int .i64 (h))), .one (.g (.int .i64 (x)))] (.tup [.one (.g (.int .i64 (fV d m q sq h x))), .one (.g (.int .i64 (fE d m q sq h x)))]) := by
  unfold fV fE
  cases hh : (kval d m q sq && isDp x && decide (-100000 ≤ h) && decide (h ≤ 100000)) with
  | false =>
    have e : ¬ (kval d m q sq = true ∧ isDp x = true ∧ -100000 ≤ h ∧ h ≤ 100000) := fun ⟨a, b, c, e⟩ => by rw [a, b] at hh; simp at hh; omega
    simp only [e, if_false, Int.reduceEq]
    exact rfast_1 d m q sq h x hh
  | true =>
    simp only [Bool.and_eq_true, decide_eq_true_eq] at hh
    obtain ⟨⟨⟨a, b⟩, c⟩, e⟩ := hh
    have hb := isDp_bd b
    have r := rfast_0 d m q sq h x a b hb.1 hb.2 c e (kval_kv a).q1
    simp only [a, b, c, e, and_self, if_true]
    by_cases z : fC d m q sq (h + x) = 0
    · simp only [z, if_true, Int.reduceEq, if_false] at r ⊢; exact r
    · simp only [z, if_true, if_false] at r ⊢; exact r

theorem kWS_len (d m : Int) (q : Nat) (sq : Nat → Int) (v dp s st : Int) (n : Nat) (lo hi : Nat → Int) : (kWS d m q sq v dp s st n lo hi).length ≤ 400 := by
  unfold kWS; split
  · exact (ws_ok _ _ _ _ _ _).2
  · simp
theorem spans_k (d m : Int) (q : Nat) (sq : Nat → Int) (v dp s st : Int) (n : Nat) (lo hi : Nat → Int) : CallsP Try.prog 22 [.one (.lst 2 (kWS d m q sq v dp s st n lo hi).length (spanF (L1 (kWS d m q sq v dp s st n lo hi)) (L2 (kWS d m q sq v dp s st n lo hi)))), .one (.lst 2 (kWS d m q sq v dp s st n lo hi).length (spanF (L1 (kWS d m q sq v dp s st n lo hi)) (L2 (kWS d m q sq v dp s st n lo hi))))] (.t (.one (.g (.bool (true))))) := by
  have h := spans_p (kWS d m q sq v dp s st n lo hi).length (kWS d m q sq v dp s st n lo hi).length (L1 (kWS d m q sq v dp s st n lo hi)) (L2 (kWS d m q sq v dp s st n lo hi)) (L1 (kWS d m q sq v dp s st n lo hi)) (L2 (kWS d m q sq v dp s st n lo hi)) (by have := kWS_len d m q sq v dp s st n lo hi; omega)
  rw [sameL_refl] at h; exact h

set_option maxRecDepth 100000 in
set_option maxHeartbeats 4000000 in
theorem law5 (d m : Int) (q : Nat) (sq : Nat → Int) (s st : Int) (n : Nat) (lo hi : Nat → Int) (x v f u : Int) : CallsP Try.prog 5 [shipP d m q sq, tideP s st n lo hi, .one (.g (.int .i64 (x))), .one (.g (.int .i64 (v))), .one (.g (.int .i64 (f))), .one (.g (.int .i64 (u)))] (.t (.one (.g (.bool true)))) := by
  refine CallsP_of Try.func5 rfl (by rw [Try.ntmps5]; simp) ?_
  simp only [Try.ntmps5, List.map_cons, List.map_nil, PT.tv, argEnv, Nat.zero_add, Nat.reduceAdd]
  repeat' (first
    | (with_reducible refine AW_seq_k fun K hK => ?_)
    | ((first | (with_reducible refine And.intro ?_ ?_) | (with_reducible refine Need.mk ?_)); focus (first | exact True.intro | (with_reducible assumption) | omega | (refine ⟨?_, ?_⟩ <;> omega) | (intro _; first | exact True.intro | (with_reducible assumption) | omega) | (intros; (repeat' (first | exact True.intro | omega | (with_reducible assumption) | (with_reducible refine And.intro ?_ ?_))); done) | (simp (disch := omega) only [Bool.and_eq_true, Bool.or_eq_true, decide_eq_true_eq, bne_iff_ne, ne_eq] at *; first | done | omega | (intros; omega)) | (simp; done) | (simp; omega) | (simp +contextual; done) | (intros; simp_all; done)))
    | (with_reducible refine AW_skip ?_)
    | (with_reducible refine AW_exit ?_)
    | (with_reducible refine AW_ret ?_)
    | (with_reducible refine retK_n ?_)
    | (with_reducible refine retK_n' ?_)
    | (with_reducible refine retH_n rfl rfl rfl ?_)
    | (with_reducible refine retH_n' rfl rfl rfl ?_)
    | (with_reducible refine AW_condI ?_)
    | (with_reducible refine AW_block ?_)
    | ((with_reducible refine condN_t ?_ ?_) <;> (intro hc; (try simp only [Bool.and_eq_true, Bool.or_eq_true, Bool.not_eq_true', Bool.and_eq_false_iff, Bool.or_eq_false_iff, decide_eq_true_eq, decide_eq_false_iff_not, bne_iff_ne, beq_iff_eq, reduceCtorEq, bne_eq_false_iff_eq, beq_eq_false_iff_ne, Bool.not_eq_false', Int.not_le, Int.not_lt, Bool.not_not] at hc); (skip); (try (exfalso; first | contradiction | omega))))
    | (with_reducible refine AW_regionP 0 [0, 1, 2, 3, 4, 5] ?_)
    | (with_reducible refine AW_regionP 1 [2, 3, 4, 5, 6, 7] ?_)
    | (with_reducible refine AW_regionP 2 [2, 3, 4, 5, 6, 7, 13] ?_)
    | (with_reducible refine AW_regionP 3 [13] ?_)
    | ((with_reducible refine AW_prune (c := Code.region 4 _ true) [2, 3, 4, 5, 6, 7, 13] ?_); (with_reducible refine AW_regionD ?_ ?_ ?_ ?_); (focus kernel_rfl); (focus kernel_rfl); (focus kernel_rfl))
    | (with_reducible refine AW_regionP 5 [2, 3, 4, 5, 6, 7, 13] ?_)
    | (with_reducible refine AW_regionP 6 [2, 3, 4, 5, 6, 7, 13, 14, 15] ?_)
    | (with_reducible refine AW_regionP 7 [2, 3, 4, 5, 6, 7, 13, 14, 15, 16, 17] ?_)
    | (with_reducible refine AW_regionP 8 [2, 3, 4, 5, 6, 7, 13] ?_)
    | (with_reducible refine AW_regionP 9 [2, 3, 4, 5, 6, 7, 13, 15, 18] ?_)
    | (with_reducible refine AW_regionP 10 [2, 3, 4, 5, 6, 7, 13, 15, 17, 18, 19] ?_)
    | (with_reducible refine AW_regionP 11 [2, 3, 4, 5, 6, 7, 13] ?_)
    | (with_reducible refine AW_regionP 12 [2, 3, 4, 5, 6, 7, 13, 14, 15] ?_)
    | (with_reducible refine AW_regionP 13 [2, 3, 4, 5, 6, 7, 13, 14, 15, 16, 17] ?_)
    | (with_reducible refine AW_regionP 14 [2, 3, 4, 5, 6, 7, 13] ?_)
    | (with_reducible refine AW_regionP 15 [2, 3, 4, 5, 6, 7, 13, 14, 15] ?_)
    | (with_reducible refine AW_regionP 16 [2, 3, 4, 5, 6, 7, 13, 14, 15, 16, 17] ?_)
    | (with_reducible refine AW_regionP 17 [2, 3, 4, 5, 6, 7, 13] ?_)
    | (with_reducible refine AW_regionP 18 [2, 3, 4, 5, 6, 7, 13, 15, 20] ?_)
    | (with_reducible refine AW_regionP 19 [2, 3, 4, 5, 6, 7, 13, 15, 17, 20, 21] ?_)
    | (with_reducible refine AW_regionP 20 [2, 3, 4, 5, 6, 7, 13] ?_)
    | (with_reducible refine AW_regionP 21 [2, 3, 4, 5, 6, 7, 13, 14, 15] ?_)
    | (with_reducible refine AW_regionP 22 [13, 14, 15, 16, 17] ?_)
    | ((with_reducible refine And.intro ?_ ?_); focus ((with_reducible show chkR _ _ _ = true); kernel_rfl))
    | (refine callN_q (k := 31) fnok_31 (head_p) ?_ ?_)
    | (refine callN_q (k := 14) fnok_14 (few_p _ _ _ _ _) ?_ ?_)
    | (refine callGN_q (k := 17) fnok_17 (fun hg => rvalid_p _ _ _ _ _) ?_ ?_)
    | (refine callDGN_q (k := 32) fnok_32 (fun hg => kvalid_p _ _ _ _) ?_ ?_)
    | (refine callDGN_q (k := 33) fnok_33 (fun hg => rkvalid_p _ _ _ _) ?_ ?_)
    | (refine callN_q (k := 34) fnok_34 (kneed_p _ _ _ _ _) ?_ ?_)
    | (refine callN_q (k := 35) fnok_35 (rneed_p _ _ _ _ _) ?_ ?_)
    | (refine callN_q (k := 36) fnok_36 (kdeep_p _ _ _ _ _ _ _ _ _ _ _ _ _) ?_ ?_)
    | (refine callN_q (k := 37) fnok_37 (rdeep_p _ _ _ _ _ _ _ _ _ _ _ _ _) ?_ ?_)
    | (refine callN_q (k := 38) fnok_38 (kleast_p _ _ _ _ _ _ _ _ _ _ _ _) ?_ ?_)
    | (refine callN_q (k := 39) fnok_39 (rleast_p _ _ _ _ _ _ _ _ _ _ _ _) ?_ ?_)
    | (refine callN_q (k := 40) fnok_40 (fast_p _ _ _ _ _ _) ?_ ?_)
    | (refine callN_q (k := 41) fnok_41 (rfast_p _ _ _ _ _ _) ?_ ?_)
    | (refine callN_q (k := 42) fnok_42 (kwin_p _ _ _ _ _ _ _ _ _ _ _) ?_ ?_)
    | (refine callN_q (k := 43) fnok_43 (rkwin_p _ _ _ _ _ _ _ _ _ _ _) ?_ ?_)
    | (refine callGN_q (k := 22) fnok_22 (fun hg => spans_k _ _ _ _ _ _ _ _ _ _ _) ?_ ?_)
    | (refine callN_q (k := 44) fnok_44 (kleave_p _ _ _ _ _ _ _ _ _ _ _ _ _) ?_ ?_)
    | (refine callN_q (k := 45) fnok_45 (rkleave_p _ _ _ _ _ _ _ _ _ _ _ _ _) ?_ ?_)
    | ((fail_if_success (with_reducible show AW _ _ _ _)); simp (maxSteps := 2000000) only [go_sem, reduceIte, reduceCtorEq, Nat.reduceAdd, Nat.reduceLT, Nat.reduceLeDiff, Nat.reduceEqDiff, Nat.reduceMul, Nat.reduceSub, Nat.reduceBEq, Try.f5, fnok_31, ty_24, fnok_14, fnok_17, ty_45, fnok_32, fnok_33, bo_4, fnok_34, fnok_35, fnok_36, fnok_37, fnok_38, fnok_39, fnok_40, fnok_41, fnok_42, fnok_43, fnok_22, fnok_44, fnok_45])
    | ((with_reducible refine hK _ ?_); clear hK K))
  all_goals skip

end Go.Proofs.Ythfnmooeijneoaa
