/- R: walks on abstract states. -/
import Derived.Test.YthfnmooeijneoaaE
import Derived.Test.YthfnmooeijneoaaG
set_option linter.unusedVariables false
set_option linter.unusedSimpArgs false
namespace Go.Proofs.Ythfnmooeijneoaa
open Go.RowKit Go.Sea
attribute [local go_sem] callK_N gf gk gdrop lkL setL lsF ltAll rdyL bodyF roundQ roundS loopQ loopS jumpOf inLs yV yA bAV zipPut purgeG List.tail_cons Option.isNone_none Option.isNone_some callGK_f callDK_f callDGK_f retN retHN blockA arun_nil arun_plain arun_guard plainF guardF guardB arunD_nil arunD_plain arunD_guard plainDF guardDF guardDB AS.ent Eff.noApp Eff.tgt ftF AV.refs TV.refs CV.refs LV.refs Op.operands Call.operands List.append_toArray List.push_toArray List.flatMap_cons List.flatMap_nil List.toList_toArray Option.toArray List.reverse_cons List.reverse_nil opF AS.ev constA lk AS.get AV.tv AV.nd AS.eff AS.put argEnv PT.tv PV.av AV.mbOf hset hget TV.cells dstOk thenA gB isB toB TV.bool? TV.int? intF loadF storeF fieldF indexF lenF sliceF optI appF minmaxF ipCells fillF repC partsF lvsF TV.lv LV.tv purgeE purgeC purgeH AV.purge CV.purge AV.has TV.has CV.has LV.has calleeF argsF tvsF toPT toIV toIVs toPTs toPV civ isIv iA bA List.map_cons List.map_nil List.length_nil List.length_cons List.getElem?_cons_zero List.getElem?_cons_succ List.getElem?_nil Option.getD_some Option.getD_none Option.bind_some Option.bind_none List.take_succ_cons List.take_zero List.drop_succ_cons List.drop_zero List.take_nil List.drop_nil List.cons_append List.nil_append List.append_nil List.getD_cons_zero List.getD_cons_succ Option.map_some Option.map_none Option.isSome_some Option.isSome_none List.size_toArray List.any_cons List.any_nil List.mem_cons if_true if_false ite_true ite_false cond_true cond_false Nat.zero_add Nat.add_zero Nat.sub_zero Nat.le_refl Nat.zero_mul Nat.mul_zero Nat.one_mul Nat.mul_one Int.toNat_zero Int.toNat_natCast Bool.or_false Bool.false_or Bool.or_true Bool.true_or Bool.and_true Bool.true_and Bool.and_false Bool.false_and beq_self_eq_true beq_true beq_false Bool.not_true Bool.not_false and_true true_and and_false false_and and_self imp_self Bool.cond_false_right Bool.cond_true_left implies_true forall_const true_implies false_implies Option.some.injEq Prod.mk.injEq ne_eq not_false_eq_true not_true_eq_false eq_self Nat.lt_irrefl Nat.not_lt_zero boF seaMin seaMax seaNat1 seaNat2 Value.bool.injEq Value.int.injEq srcF lstC TV.dp IV.eqv PT.eqv PV.eqv All2 keepE hupd callZ_N AS.frz AS.frzW frzs frzsOk frzOk frzE frzA frzT frzC frzG frzH hdel cmpS eqF eqC gvs eqVs eqV decide_true resF tupA inlQ okL okGL okG nextL wkH wkC wkV nilA nilC AV.ok TV.ok CV.ok LV.ok okB forall_eq_or_imp forall_eq List.not_mem_nil List.mem_singleton true_or or_true or_false false_or exists_prop AV.t.injEq TV.one.injEq CV.iv.injEq IV.g.injEq TV.agg.injEq List.cons.injEq
theorem fnok_33 : fnOk Try.prog 33 = true := by kernel_rfl
theorem fnok_35 : fnOk Try.prog 35 = true := by kernel_rfl
theorem fnok_46 : fnOk Try.prog 46 = true := by kernel_rfl
theorem fnok_74 : fnOk Try.prog 74 = true := by kernel_rfl

theorem rk_f {d m : Int} {q : Nat} {sq : Nat → Int} (h : ((((d < 1 ∨ d > 1000) ∨ m < 0) ∨ m > 1000) ∨ (q : Int) < 1) ∨ (q : Int) > 20) : kval d m q sq = false := by
  have : decide (1 ≤ d ∧ d ≤ 1000 ∧ 0 ≤ m ∧ m ≤ 1000 ∧ 1 ≤ q ∧ q ≤ 20) = false := decide_eq_false (by omega)
  simp [kval, this]
theorem rk_k {d m : Int} {q k : Nat} {sq : Nat → Int} (hk : (k : Int) < q) (h : (sq k < 0 ∨ sq k > 1000) ∨ ((k : Int) > 0 ∧ sq k < sq (k - 1))) : kval d m q sq = false := by
  refine Bool.eq_false_iff.2 fun hv => ?_
  have K := kval_kv hv
  have a := K.bd k (by omega)
  have b := K.up (k - 1) k (by omega) (by omega)
  omega
theorem rk_t {d m : Int} {q k : Nat} {sq : Nat → Int} (h : ((((1 ≤ d ∧ d ≤ 1000) ∧ 0 ≤ m) ∧ m ≤ 1000) ∧ 1 ≤ (q : Int)) ∧ (q : Int) ≤ 20) (hk : (q : Int) ≤ k) (h1 : ∀ i, i < k → 0 ≤ sq i ∧ sq i ≤ 1000) (h2 : ∀ i, i + 1 < k → sq i ≤ sq (i + 1)) : kval d m q sq = true := by
  rw [kval_e (by omega)]
  have a : riseB q sq = true := riseB_t.2 fun i hi => h2 i (by omega)
  have b := h1 0 (by omega)
  have c := h1 (q - 1) (by omega)
  simp [a, b.1, c.2]
theorem rise_succ {k : Nat} {sq : Nat → Int} (h : ∀ i, i + 1 < k → sq i ≤ sq (i + 1)) (h2 : (k : Int) ≤ 0 ∨ sq (k - 1) ≤ sq k) : ∀ i, i + 1 < k + 1 → sq i ≤ sq (i + 1) := fun i hi => by
  by_cases e : i + 1 = k
  · subst e
    rcases h2 with h2 | h2
    · omega
    · exact h2
  · exact h i (by omega)

set_option maxRecDepth 100000 in
set_option maxHeartbeats 4000000 in
theorem rkvalid_p (d m : Int) (q : Nat) (sq : Nat → Int) : CallsP Try.prog 33 [shipP d m q sq] (.t (.one (.g (.bool (kval d m q sq))))) := by
  refine CallsP_of Try.func33 rfl (by rw [Try.ntmps33]; simp) ?_
  simp only [Try.ntmps33, List.map_cons, List.map_nil, PT.tv, argEnv, Nat.zero_add, Nat.reduceAdd]
  repeat' (first
    | (with_reducible refine AW_seq_k fun K hK => ?_)
    | ((first | (with_reducible refine And.intro ?_ ?_) | (with_reducible refine Need.mk ?_)); focus (first | exact True.intro | (with_reducible assumption) | omega | (refine ⟨?_, ?_⟩ <;> omega) | (intro _; first | exact True.intro | (with_reducible assumption) | omega) | (intros; (repeat' (first | exact True.intro | omega | (with_reducible assumption) | (with_reducible refine And.intro ?_ ?_))); done) | (simp (disch := omega) only [Bool.and_eq_true, Bool.or_eq_true, decide_eq_true_eq, bne_iff_ne, ne_eq] at *; first | done | omega | (intros; omega)) | (simp; done) | (simp; omega) | (simp +contextual; done) | (intro h; rw [h]; rfl) | (intros; simp_all; done)))
    | (with_reducible refine AW_skip ?_)
    | (with_reducible refine AW_exit ?_)
    | (with_reducible refine AW_ret ?_)
    | (with_reducible refine retK_n ?_)
    | (with_reducible refine retK_n' ?_)
    | (with_reducible refine retH_n rfl rfl rfl ?_)
    | (with_reducible refine retH_n' rfl rfl rfl ?_)
    | (with_reducible refine AW_condI ?_)
    | (with_reducible refine AW_block ?_)
    | ((with_reducible refine condN_t ?_ ?_) <;> (intro hc; (try simp only [Bool.and_eq_true, Bool.or_eq_true, Bool.not_eq_true', Bool.and_eq_false_iff, Bool.or_eq_false_iff, decide_eq_true_eq, decide_eq_false_iff_not, bne_iff_ne, beq_iff_eq, reduceCtorEq, bne_eq_false_iff_eq, beq_eq_false_iff_ne, Bool.not_eq_false', Int.not_le, Int.not_lt, Bool.not_not] at hc); (try (exfalso; first | contradiction | omega))))
    | (with_reducible refine AW_regionP 0 [0] ?_)
    | (with_reducible refine AW_regionP 1 [1] ?_)
    | (with_reducible refine AW_regionP 2 [] ?_)
    | (with_reducible refine AW_regionP 3 [1] ?_)
    | (with_reducible refine AW_regionP 4 [1, 3] ?_)
    | (with_reducible refine AW_regionP 5 [1, 3] ?_)
    | ((with_reducible refine AW_prune (c := Code.region 6 _ true) [1, 3] ?_); (with_reducible refine AW_regionD ?_ ?_ ?_ ?_); (focus kernel_rfl); (focus kernel_rfl); (focus kernel_rfl))
    | (with_reducible refine AW_regionP 7 [] ?_)
    | (with_reducible refine AW_regionP 8 [] ?_)
    | ((with_reducible refine And.intro ?_ ?_); focus ((with_reducible show chkR _ _ _ = true); kernel_rfl))
    | ((with_reducible refine AW_loopQ (c := (Code.seq (Code.seq (Code.region 4 _ _) _) _)) (ι := Nat) [1] (fun k => [(3, iA .i64 (k : Int))]) (fun k => []) (fun k => k ≤ q ∧ (∀ i, i < k → 0 ≤ sq i ∧ sq i ≤ 1000) ∧ (∀ i, i + 1 < k → sq i ≤ sq (i + 1))) (fun k => q - k) 0 ?lg4 ?l14 ?l24 ?li4 ?lr4); (case' lg4 => rintro k _); (case' li4 => try (exact ⟨Nat.zero_le _, fun i hi => absurd hi (Nat.not_lt_zero _), fun i hi => absurd hi (Nat.not_lt_zero _)⟩)); (case' lr4 => rintro k ⟨h1, h2, h3⟩ KR hR4; skip; simp only [keepE, hupd, hset, lk, if_true, if_false, Nat.reduceEqDiff, reduceIte, List.cons_append, List.nil_append, sqF0]))
    | ((with_reducible refine hR4 _ (k + 1) ?_); (try clear hR4 KR))
    | ((with_reducible refine Told.mk ?_); simp only [go_sem, reduceIte, reduceCtorEq, Nat.reduceAdd, Nat.reduceLT, Nat.reduceLeDiff, Nat.reduceEqDiff, Nat.reduceMul, Nat.reduceSub, Nat.reduceBEq, sqF0] <;> (first | exact True.intro | ((try simp (disch := omega) only [seaWrap, Int.natCast_add, Int.cast_ofNat_Int, and_true, true_and, and_self]); (repeat' (first | exact True.intro | omega | (with_reducible assumption) | (with_reducible refine And.intro ?_ ?_) | (exact all_succ (by assumption) (by omega)) | (exact rise_succ (by assumption) (by omega)))); done) | (refine Stuck.out ?_)))
    | ((fail_if_success (with_reducible show AW _ _ _ _)); simp (maxSteps := 2000000) only [go_sem, reduceIte, reduceCtorEq, Nat.reduceAdd, Nat.reduceLT, Nat.reduceLeDiff, Nat.reduceEqDiff, Nat.reduceMul, Nat.reduceSub, Nat.reduceBEq, Try.f33, of_45_0, ty_3, of_45_1, of_45_2, ty_43, le_43, sl_43, ar_43, sqF0])
    | ((fail_if_success (with_reducible show AW _ _ _ _)); simp (disch := omega) only [seaWrap, seaDiv, seaMod])
    | ((with_reducible refine hK _ ?_); clear hK K)
    | (with_reducible apply_assumption -exfalso))
  all_goals (refine Eq.symm ?_; first | exact rk_f (by assumption) | exact rk_k (k := k) (by assumption) (by assumption) | exact rk_t (k := k) (by assumption) (by assumption) (by assumption) (by assumption))

set_option maxRecDepth 100000 in
set_option maxHeartbeats 4000000 in
theorem rneed_1 (d m : Int) (q : Nat) (sq : Nat → Int) (v : Int) (hh : (kval d m q sq && isSp v) = false) : CallsP Try.prog 35 [shipP d m q sq, .one (.g (.int .i64 (v)))] (.tup [.one (.g (.int .i64 (0))), .one (.g (.int .i64 (1)))]) := by
  refine CallsP_of Try.func35 rfl (by rw [Try.ntmps35]; simp) ?_
  simp only [Try.ntmps35, List.map_cons, List.map_nil, PT.tv, argEnv, Nat.zero_add, Nat.reduceAdd]
  repeat' (first
    | (with_reducible refine AW_seq_k fun K hK => ?_)
    | ((first | (with_reducible refine And.intro ?_ ?_) | (with_reducible refine Need.mk ?_)); focus (first | exact True.intro | (with_reducible assumption) | omega | (refine ⟨?_, ?_⟩ <;> omega) | (intro _; first | exact True.intro | (with_reducible assumption) | omega) | (intros; (repeat' (first | exact True.intro | omega | (with_reducible assumption) | (with_reducible refine And.intro ?_ ?_))); done) | (simp (disch := omega) only [Bool.and_eq_true, Bool.or_eq_true, decide_eq_true_eq, bne_iff_ne, ne_eq] at *; first | done | omega | (intros; omega)) | (simp; done) | (simp; omega) | (simp +contextual; done) | (intro h; rw [h]; rfl) | (intros; simp_all; done)))
    | (with_reducible refine AW_skip ?_)
    | (with_reducible refine AW_exit ?_)
    | (with_reducible refine AW_ret ?_)
    | (with_reducible refine retK_n ?_)
    | (with_reducible refine retK_n' ?_)
    | (with_reducible refine retH_n rfl rfl rfl ?_)
    | (with_reducible refine retH_n' rfl rfl rfl ?_)
    | (with_reducible refine AW_condI ?_)
    | (with_reducible refine AW_block ?_)
    | ((with_reducible refine condN_t ?_ ?_) <;> (intro hc; (try simp only [Bool.and_eq_true, Bool.or_eq_true, Bool.not_eq_true', Bool.and_eq_false_iff, Bool.or_eq_false_iff, decide_eq_true_eq, decide_eq_false_iff_not, bne_iff_ne, beq_iff_eq, reduceCtorEq, bne_eq_false_iff_eq, beq_eq_false_iff_ne, Bool.not_eq_false', Int.not_le, Int.not_lt, Bool.not_not] at hc); (try (exfalso; first | contradiction | omega))))
    | (with_reducible refine AW_regionP 0 [0, 1] ?_)
    | (with_reducible refine AW_regionP 1 [1, 2] ?_)
    | (with_reducible refine AW_regionP 2 [1, 2, 6] ?_)
    | (with_reducible refine AW_regionP 3 [1, 2, 6, 7] ?_)
    | (with_reducible refine AW_regionP 4 [] ?_)
    | (with_reducible refine AW_regionP 5 [1, 2] ?_)
    | (with_reducible refine AW_regionP 6 [] ?_)
    | (with_reducible refine AW_regionP 7 [1, 2] ?_)
    | (with_reducible refine AW_regionP 8 [2] ?_)
    | ((with_reducible refine AW_prune (c := Code.region 9 _ true) [1, 2] ?_); (with_reducible refine AW_regionD ?_ ?_ ?_ ?_); (focus kernel_rfl); (focus kernel_rfl); (focus kernel_rfl))
    | ((with_reducible refine And.intro ?_ ?_); focus ((with_reducible show chkR _ _ _ = true); kernel_rfl))
    | (refine callN_q (k := 33) fnok_33 (rkvalid_p _ _ _ _) ?_ ?_)
    | (refine callN_q (k := 74) fnok_74 (rSpeed_p _) ?_ ?_)
    | ((fail_if_success (with_reducible show AW _ _ _ _)); simp (maxSteps := 2000000) only [go_sem, reduceIte, reduceCtorEq, Nat.reduceAdd, Nat.reduceLT, Nat.reduceLeDiff, Nat.reduceEqDiff, Nat.reduceMul, Nat.reduceSub, Nat.reduceBEq, Try.f35, ty_45, fnok_33, fnok_74, of_45_2, ty_43, le_43, of_45_0, ty_3, of_45_1, sl_43, ar_43])
    | ((fail_if_success (with_reducible show AW _ _ _ _)); simp (disch := omega) only [seaWrap, seaDiv, seaMod])
    | ((with_reducible refine hK _ ?_); clear hK K))
  all_goals (simp_all; try omega)

set_option maxRecDepth 100000 in
set_option maxHeartbeats 4000000 in
theorem rneed_3 (d m : Int) (q : Nat) (sq : Nat → Int) (v : Int) (hk : kval d m q sq = true) (hs : isSp v = true) (v0 : 0 ≤ v) (v1 : v ≤ 2000) (q1 : q ≤ 20) (c : 100 * (q : Int) < v) : CallsP Try.prog 35 [shipP d m q sq, .one (.g (.int .i64 (v)))] (.tup [.one (.g (.int .i64 (0))), .one (.g (.int .i64 (3)))]) := by
  refine CallsP_of Try.func35 rfl (by rw [Try.ntmps35]; simp) ?_
  simp only [Try.ntmps35, List.map_cons, List.map_nil, PT.tv, argEnv, Nat.zero_add, Nat.reduceAdd]
  repeat' (first
    | (with_reducible refine AW_seq_k fun K hK => ?_)
    | ((first | (with_reducible refine And.intro ?_ ?_) | (with_reducible refine Need.mk ?_)); focus (first | exact True.intro | (with_reducible assumption) | omega | (refine ⟨?_, ?_⟩ <;> omega) | (intro _; first | exact True.intro | (with_reducible assumption) | omega) | (intros; (repeat' (first | exact True.intro | omega | (with_reducible assumption) | (with_reducible refine And.intro ?_ ?_))); done) | (simp (disch := omega) only [Bool.and_eq_true, Bool.or_eq_true, decide_eq_true_eq, bne_iff_ne, ne_eq] at *; first | done | omega | (intros; omega)) | (simp; done) | (simp; omega) | (simp +contextual; done) | (intro h; rw [h]; rfl) | (intros; simp_all; done)))
    | (with_reducible refine AW_skip ?_)
    | (with_reducible refine AW_exit ?_)
    | (with_reducible refine AW_ret ?_)
    | (with_reducible refine retK_n ?_)
    | (with_reducible refine retK_n' ?_)
    | (with_reducible refine retH_n rfl rfl rfl ?_)
    | (with_reducible refine retH_n' rfl rfl rfl ?_)
    | (with_reducible refine AW_condI ?_)
    | (with_reducible refine AW_block ?_)
    | ((with_reducible refine condN_t ?_ ?_) <;> (intro hc; (try simp only [Bool.and_eq_true, Bool.or_eq_true, Bool.not_eq_true', Bool.and_eq_false_iff, Bool.or_eq_false_iff, decide_eq_true_eq, decide_eq_false_iff_not, bne_iff_ne, beq_iff_eq, reduceCtorEq, bne_eq_false_iff_eq, beq_eq_false_iff_ne, Bool.not_eq_false', Int.not_le, Int.not_lt, Bool.not_not] at hc); (try (exfalso; first | contradiction | omega))))
    | (with_reducible refine AW_regionP 0 [0, 1] ?_)
    | (with_reducible refine AW_regionP 1 [1, 2] ?_)
    | (with_reducible refine AW_regionP 2 [1, 2, 6] ?_)
    | (with_reducible refine AW_regionP 3 [1, 2, 6, 7] ?_)
    | (with_reducible refine AW_regionP 4 [] ?_)
    | (with_reducible refine AW_regionP 5 [1, 2] ?_)
    | (with_reducible refine AW_regionP 6 [] ?_)
    | (with_reducible refine AW_regionP 7 [1, 2] ?_)
    | (with_reducible refine AW_regionP 8 [2] ?_)
    | ((with_reducible refine AW_prune (c := Code.region 9 _ true) [1, 2] ?_); (with_reducible refine AW_regionD ?_ ?_ ?_ ?_); (focus kernel_rfl); (focus kernel_rfl); (focus kernel_rfl))
    | ((with_reducible refine And.intro ?_ ?_); focus ((with_reducible show chkR _ _ _ = true); kernel_rfl))
    | (refine callN_q (k := 33) fnok_33 (rkvalid_p _ _ _ _) ?_ ?_)
    | (refine callN_q (k := 74) fnok_74 (rSpeed_p _) ?_ ?_)
    | ((fail_if_success (with_reducible show AW _ _ _ _)); simp (maxSteps := 2000000) only [go_sem, reduceIte, reduceCtorEq, Nat.reduceAdd, Nat.reduceLT, Nat.reduceLeDiff, Nat.reduceEqDiff, Nat.reduceMul, Nat.reduceSub, Nat.reduceBEq, Try.f35, ty_45, fnok_33, fnok_74, of_45_2, ty_43, le_43, of_45_0, ty_3, of_45_1, sl_43, ar_43, hk, hs])
    | ((fail_if_success (with_reducible show AW _ _ _ _)); simp (disch := omega) only [seaWrap, seaDiv, seaMod])
    | ((with_reducible refine hK _ ?_); clear hK K))

set_option maxRecDepth 100000 in
set_option maxHeartbeats 4000000 in
theorem rneed_00 (d m : Int) (q : Nat) (sq : Nat → Int) (v : Int) (hk : kval d m q sq = true) (hs : isSp v = true) (v0 : 0 ≤ v) (v1 : v ≤ 2000) (q1 : q ≤ 20) (c : v ≤ 100 * (q : Int)) (hv : v = 0) (g1 : 1 ≤ d) (g2 : d ≤ 1000) (g3 : 0 ≤ m) (g4 : m ≤ 1000) : CallsP Try.prog 35 [shipP d m q sq, .one (.g (.int .i64 (v)))] (.tup [.one (.g (.int .i64 (d + m))), .one (.g (.int .i64 (0)))]) := by
  refine CallsP_of Try.func35 rfl (by rw [Try.ntmps35]; simp) ?_
  simp only [Try.ntmps35, List.map_cons, List.map_nil, PT.tv, argEnv, Nat.zero_add, Nat.reduceAdd]
  repeat' (first
    | (with_reducible refine AW_seq_k fun K hK => ?_)
    | ((first | (with_reducible refine And.intro ?_ ?_) | (with_reducible refine Need.mk ?_)); focus (first | exact True.intro | (with_reducible assumption) | omega | (refine ⟨?_, ?_⟩ <;> omega) | (intro _; first | exact True.intro | (with_reducible assumption) | omega) | (intros; (repeat' (first | exact True.intro | omega | (with_reducible assumption) | (with_reducible refine And.intro ?_ ?_))); done) | (simp (disch := omega) only [Bool.and_eq_true, Bool.or_eq_true, decide_eq_true_eq, bne_iff_ne, ne_eq] at *; first | done | omega | (intros; omega)) | (simp; done) | (simp; omega) | (simp +contextual; done) | (intro h; rw [h]; rfl) | (intros; simp_all; done)))
    | (with_reducible refine AW_skip ?_)
    | (with_reducible refine AW_exit ?_)
    | (with_reducible refine AW_ret ?_)
    | (with_reducible refine retK_n ?_)
    | (with_reducible refine retK_n' ?_)
    | (with_reducible refine retH_n rfl rfl rfl ?_)
    | (with_reducible refine retH_n' rfl rfl rfl ?_)
    | (with_reducible refine AW_condI ?_)
    | (with_reducible refine AW_block ?_)
    | ((with_reducible refine condN_t ?_ ?_) <;> (intro hc; (try simp only [Bool.and_eq_true, Bool.or_eq_true, Bool.not_eq_true', Bool.and_eq_false_iff, Bool.or_eq_false_iff, decide_eq_true_eq, decide_eq_false_iff_not, bne_iff_ne, beq_iff_eq, reduceCtorEq, bne_eq_false_iff_eq, beq_eq_false_iff_ne, Bool.not_eq_false', Int.not_le, Int.not_lt, Bool.not_not] at hc); (try (exfalso; first | contradiction | omega))))
    | (with_reducible refine AW_regionP 0 [0, 1] ?_)
    | (with_reducible refine AW_regionP 1 [1, 2] ?_)
    | (with_reducible refine AW_regionP 2 [1, 2, 6] ?_)
    | (with_reducible refine AW_regionP 3 [1, 2, 6, 7] ?_)
    | (with_reducible refine AW_regionP 4 [] ?_)
    | (with_reducible refine AW_regionP 5 [1, 2] ?_)
    | (with_reducible refine AW_regionP 6 [] ?_)
    | (with_reducible refine AW_regionP 7 [1, 2] ?_)
    | (with_reducible refine AW_regionP 8 [2] ?_)
    | ((with_reducible refine AW_prune (c := Code.region 9 _ true) [1, 2] ?_); (with_reducible refine AW_regionD ?_ ?_ ?_ ?_); (focus kernel_rfl); (focus kernel_rfl); (focus kernel_rfl))
    | ((with_reducible refine And.intro ?_ ?_); focus ((with_reducible show chkR _ _ _ = true); kernel_rfl))
    | (refine callN_q (k := 33) fnok_33 (rkvalid_p _ _ _ _) ?_ ?_)
    | (refine callN_q (k := 74) fnok_74 (rSpeed_p _) ?_ ?_)
    | ((fail_if_success (with_reducible show AW _ _ _ _)); simp (maxSteps := 2000000) only [go_sem, reduceIte, reduceCtorEq, Nat.reduceAdd, Nat.reduceLT, Nat.reduceLeDiff, Nat.reduceEqDiff, Nat.reduceMul, Nat.reduceSub, Nat.reduceBEq, Try.f35, ty_45, fnok_33, fnok_74, of_45_2, ty_43, le_43, of_45_0, ty_3, of_45_1, sl_43, ar_43, hk, hs])
    | ((fail_if_success (with_reducible show AW _ _ _ _)); simp (disch := omega) only [seaWrap, seaDiv, seaMod])
    | ((with_reducible refine hK _ ?_); clear hK K))

set_option maxRecDepth 100000 in
set_option maxHeartbeats 4000000 in
theorem rneed_01 (d m : Int) (q : Nat) (sq : Nat → Int) (v : Int) (hk : kval d m q sq = true) (hs : isSp v = true) (v0 : 0 ≤ v) (v1 : v ≤ 2000) (q1 : q ≤ 20) (c : v ≤ 100 * (q : Int)) (hv : ¬ v = 0) (g1 : 1 ≤ d) (g2 : d ≤ 1000) (g3 : 0 ≤ m) (g4 : m ≤ 1000) (i0 : 0 ≤ (v - 1) / 100) (i1 : (v - 1) / 100 < q) (b0 : 0 ≤ sq ((v - 1) / 100).toNat) (b1 : sq ((v - 1) / 100).toNat ≤ 1000) : CallsP Try.prog 35 [shipP d m q sq, .one (.g (.int .i64 (v)))] (.tup [.one (.g (.int .i64 (d + m + sq ((v - 1) / 100).toNat))), .one (.g (.int .i64 (0)))]) := by
  refine CallsP_of Try.func35 rfl (by rw [Try.ntmps35]; simp) ?_
  simp only [Try.ntmps35, List.map_cons, List.map_nil, PT.tv, argEnv, Nat.zero_add, Nat.reduceAdd]
  repeat' (first
    | (with_reducible refine AW_seq_k fun K hK => ?_)
    | ((first | (with_reducible refine And.intro ?_ ?_) | (with_reducible refine Need.mk ?_)); focus (first | exact True.intro | (with_reducible assumption) | omega | (refine ⟨?_, ?_⟩ <;> omega) | (intro _; first | exact True.intro | (with_reducible assumption) | omega) | (intros; (repeat' (first | exact True.intro | omega | (with_reducible assumption) | (with_reducible refine And.intro ?_ ?_))); done) | (simp (disch := omega) only [Bool.and_eq_true, Bool.or_eq_true, decide_eq_true_eq, bne_iff_ne, ne_eq] at *; first | done | omega | (intros; omega)) | (simp; done) | (simp; omega) | (simp +contextual; done) | (intro h; rw [h]; rfl) | (intros; simp_all; done)))
    | (with_reducible refine AW_skip ?_)
    | (with_reducible refine AW_exit ?_)
    | (with_reducible refine AW_ret ?_)
    | (with_reducible refine retK_n ?_)
    | (with_reducible refine retK_n' ?_)
    | (with_reducible refine retH_n rfl rfl rfl ?_)
    | (with_reducible refine retH_n' rfl rfl rfl ?_)
    | (with_reducible refine AW_condI ?_)
    | (with_reducible refine AW_block ?_)
    | ((with_reducible refine condN_t ?_ ?_) <;> (intro hc; (try simp only [Bool.and_eq_true, Bool.or_eq_true, Bool.not_eq_true', Bool.and_eq_false_iff, Bool.or_eq_false_iff, decide_eq_true_eq, decide_eq_false_iff_not, bne_iff_ne, beq_iff_eq, reduceCtorEq, bne_eq_false_iff_eq, beq_eq_false_iff_ne, Bool.not_eq_false', Int.not_le, Int.not_lt, Bool.not_not] at hc); (try (exfalso; first | contradiction | omega))))
    | (with_reducible refine AW_regionP 0 [0, 1] ?_)
    | (with_reducible refine AW_regionP 1 [1, 2] ?_)
    | (with_reducible refine AW_regionP 2 [1, 2, 6] ?_)
    | (with_reducible refine AW_regionP 3 [1, 2, 6, 7] ?_)
    | (with_reducible refine AW_regionP 4 [] ?_)
    | (with_reducible refine AW_regionP 5 [1, 2] ?_)
    | (with_reducible refine AW_regionP 6 [] ?_)
    | (with_reducible refine AW_regionP 7 [1, 2] ?_)
    | (with_reducible refine AW_regionP 8 [2] ?_)
    | ((with_reducible refine AW_prune (c := Code.region 9 _ true) [1, 2] ?_); (with_reducible refine AW_regionD ?_ ?_ ?_ ?_); (focus kernel_rfl); (focus kernel_rfl); (focus kernel_rfl))
    | ((with_reducible refine And.intro ?_ ?_); focus ((with_reducible show chkR _ _ _ = true); kernel_rfl))
    | (refine callN_q (k := 33) fnok_33 (rkvalid_p _ _ _ _) ?_ ?_)
    | (refine callN_q (k := 74) fnok_74 (rSpeed_p _) ?_ ?_)
    | ((fail_if_success (with_reducible show AW _ _ _ _)); simp (maxSteps := 2000000) only [go_sem, reduceIte, reduceCtorEq, Nat.reduceAdd, Nat.reduceLT, Nat.reduceLeDiff, Nat.reduceEqDiff, Nat.reduceMul, Nat.reduceSub, Nat.reduceBEq, Try.f35, ty_45, fnok_33, fnok_74, of_45_2, ty_43, le_43, of_45_0, ty_3, of_45_1, sl_43, ar_43, hk, hs, sqF0])
    | ((fail_if_success (with_reducible show AW _ _ _ _)); simp (disch := omega) only [seaWrap, seaDiv, seaMod])
    | ((with_reducible refine hK _ ?_); clear hK K))

theorem rneed_p (d m : Int) (q : Nat) (sq : Nat → Int) (v : Int) : CallsP Try.prog 35 [shipP d m q sq, .one (.g (.int .i64 (v)))] (.tup [.one (.g (.int .i64 (kN d m q sq v))), .one (.g (.int .i64 (kE d m q sq v)))]) := by
  unfold kN
  rcases kE_c d m q sq v with ⟨h, e⟩ | ⟨h1, h2, h3, h4, h5, h6, e⟩ | ⟨h1, h2, h3, h4, h5, h6, e⟩
  · rw [e, if_neg (by omega)]; exact rneed_1 d m q sq v h
  · rw [e, if_neg (by omega)]; exact rneed_3 d m q sq v h1 h2 h3 h4 h5 h6
  · rw [e, if_pos rfl]
    have K := kval_kv h1
    unfold needV
    split
    · rename_i hv; exact rneed_00 d m q sq v h1 h2 h3 h4 h5 h6 hv K.d0 K.d1 K.m0 K.m1
    · rename_i hv
      obtain ⟨i0, i1⟩ := need_ix (q := q) (v := v) (by omega) h6
      obtain ⟨b0, b1⟩ := K.bd ((v - 1) / 100).toNat (by omega)
      exact rneed_01 d m q sq v h1 h2 h3 h4 h5 h6 hv K.d0 K.d1 K.m0 K.m1 i0 i1 b0 b1

set_option maxRecDepth 100000 in
set_option maxHeartbeats 4000000 in
theorem rfast_1 (d m : Int) (q : Nat) (sq : Nat → Int) (h x : Int) (hh : (kval d m q sq && isDp x && decide (-100000 ≤ h) && decide (h ≤ 100000)) = false) : CallsP Try.prog 41 [shipP d m q sq, .one (.g (.int .i64 (h))), .one (.g (.int .i64 (x)))] (.tup [.one (.g (.int .i64 (0))), .one (.g (.int .i64 (1)))]) := by
  refine CallsP_of Try.func41 rfl (by rw [Try.ntmps41]; simp) ?_
  simp only [Try.ntmps41, List.map_cons, List.map_nil, PT.tv, argEnv, Nat.zero_add, Nat.reduceAdd]
  repeat' (first
    | (with_reducible refine AW_seq_k fun K hK => ?_)
    | ((first | (with_reducible refine And.intro ?_ ?_) | (with_reducible refine Need.mk ?_)); focus (first | exact True.intro | (with_reducible assumption) | omega | (refine ⟨?_, ?_⟩ <;> omega) | (intro _; first | exact True.intro | (with_reducible assumption) | omega) | (intros; (repeat' (first | exact True.intro | omega | (with_reducible assumption) | (with_reducible refine And.intro ?_ ?_))); done) | (simp (disch := omega) only [Bool.and_eq_true, Bool.or_eq_true, decide_eq_true_eq, bne_iff_ne, ne_eq] at *; first | done | omega | (intros; omega)) | (simp; done) | (simp; omega) | (simp +contextual; done) | (intro h; rw [h]; rfl) | (intros; simp_all; done)))
    | (with_reducible refine AW_skip ?_)
    | (with_reducible refine AW_exit ?_)
    | (with_reducible refine AW_ret ?_)
    | (with_reducible refine retK_n ?_)
    | (with_reducible refine retK_n' ?_)
    | (with_reducible refine retH_n rfl rfl rfl ?_)
    | (with_reducible refine retH_n' rfl rfl rfl ?_)
    | (with_reducible refine AW_condI ?_)
    | (with_reducible refine AW_block ?_)
    | ((with_reducible refine condN_t ?_ ?_) <;> (intro hc; (try simp only [Bool.and_eq_true, Bool.or_eq_true, Bool.not_eq_true', Bool.and_eq_false_iff, Bool.or_eq_false_iff, decide_eq_true_eq, decide_eq_false_iff_not, bne_iff_ne, beq_iff_eq, reduceCtorEq, bne_eq_false_iff_eq, beq_eq_false_iff_ne, Bool.not_eq_false', Int.not_le, Int.not_lt, Bool.not_not] at hc); (try (exfalso; first | contradiction | omega))))
    | (with_reducible refine AW_regionP 0 [0, 1, 2] ?_)
    | (with_reducible refine AW_regionP 1 [1, 2, 3] ?_)
    | (with_reducible refine AW_regionP 2 [1, 2, 3, 8] ?_)
    | (with_reducible refine AW_regionP 3 [1, 2, 3, 8, 9] ?_)
    | (with_reducible refine AW_regionP 4 [] ?_)
    | (with_reducible refine AW_regionP 5 [1, 2, 3] ?_)
    | (with_reducible refine AW_regionP 6 [1, 2, 3, 10] ?_)
    | (with_reducible refine AW_regionP 7 [1, 2, 3, 10] ?_)
    | (with_reducible refine AW_regionP 8 [1, 2, 3, 10] ?_)
    | (with_reducible refine AW_regionP 9 [1, 2, 3, 10, 11] ?_)
    | (with_reducible refine AW_regionP 10 [10] ?_)
    | (with_reducible refine AW_regionP 11 [] ?_)
    | (refine callN_q (k := 33) fnok_33 (rkvalid_p _ _ _ _) ?_ ?_)
    | (refine callN_q (k := 46) fnok_46 (rDepth_p _) ?_ ?_)
    | (refine callN_q (k := 35) fnok_35 (rneed_p _ _ _ _ _) ?_ ?_)
    | ((fail_if_success (with_reducible show AW _ _ _ _)); simp (maxSteps := 2000000) only [go_sem, reduceIte, reduceCtorEq, Nat.reduceAdd, Nat.reduceLT, Nat.reduceLeDiff, Nat.reduceEqDiff, Nat.reduceMul, Nat.reduceSub, Nat.reduceBEq, Try.f41, ty_45, fnok_33, fnok_46, of_45_2, ty_43, le_43, fnok_35])
    | ((fail_if_success (with_reducible show AW _ _ _ _)); simp (disch := omega) only [seaWrap, seaDiv, seaMod])
    | ((with_reducible refine hK _ ?_); clear hK K))
  all_goals (simp_all; try omega)

theorem kN_v {d m : Int} {q : Nat} {sq : Nat → Int} (hk : kval d m q sq = true) {v : Int} (h0 : 0 ≤ v) (h1 : v ≤ 100 * q) : kN d m q sq v = needV d m sq v := by
  have K := kval_kv hk
  have := K.q1
  unfold kN
  rw [kE_0 ⟨hk, decide_eq_true (by omega)⟩ h1, if_pos rfl]

end Go.Proofs.Ythfnmooeijneoaa
