/- E: walks on abstract states. -/
import Derived.Test.YthfnmooeijneoaaD
set_option linter.unusedVariables false
set_option linter.unusedSimpArgs false
namespace Go.Proofs.Ythfnmooeijneoaa
open Go.RowKit Go.Sea
attribute [local go_sem] callK_N gf gk gdrop lkL setL lsF ltAll rdyL bodyF roundQ roundS loopQ loopS jumpOf inLs yV yA bAV zipPut purgeG List.tail_cons Option.isNone_none Option.isNone_some callGK_f callDK_f callDGK_f retN retHN blockA arun_nil arun_plain arun_guard plainF guardF guardB arunD_nil arunD_plain arunD_guard plainDF guardDF guardDB AS.ent Eff.noApp Eff.tgt ftF AV.refs TV.refs CV.refs LV.refs Op.operands Call.operands List.append_toArray List.push_toArray List.flatMap_cons List.flatMap_nil List.toList_toArray Option.toArray List.reverse_cons List.reverse_nil opF AS.ev constA lk AS.get AV.tv AV.nd AS.eff AS.put argEnv PT.tv PV.av AV.mbOf hset hget TV.cells dstOk thenA gB isB toB TV.bool? TV.int? intF loadF storeF fieldF indexF lenF sliceF optI appF minmaxF ipCells fillF repC partsF lvsF TV.lv LV.tv purgeE purgeC purgeH AV.purge CV.purge AV.has TV.has CV.has LV.has calleeF argsF tvsF toPT toIV toIVs toPTs toPV civ isIv iA bA List.map_cons List.map_nil List.length_nil List.length_cons List.getElem?_cons_zero List.getElem?_cons_succ List.getElem?_nil Option.getD_some Option.getD_none Option.bind_some Option.bind_none List.take_succ_cons List.take_zero List.drop_succ_cons List.drop_zero List.take_nil List.drop_nil List.cons_append List.nil_append List.append_nil List.getD_cons_zero List.getD_cons_succ Option.map_some Option.map_none Option.isSome_some Option.isSome_none List.size_toArray List.any_cons List.any_nil List.mem_cons if_true if_false ite_true ite_false cond_true cond_false Nat.zero_add Nat.add_zero Nat.sub_zero Nat.le_refl Nat.zero_mul Nat.mul_zero Nat.one_mul Nat.mul_one Int.toNat_zero Int.toNat_natCast Bool.or_false Bool.false_or Bool.or_true Bool.true_or Bool.and_true Bool.true_and Bool.and_false Bool.false_and beq_self_eq_true beq_true beq_false Bool.not_true Bool.not_false and_true true_and and_false false_and and_self imp_self Bool.cond_false_right Bool.cond_true_left implies_true forall_const true_implies false_implies Option.some.injEq Prod.mk.injEq ne_eq not_false_eq_true not_true_eq_false eq_self Nat.lt_irrefl Nat.not_lt_zero boF seaMin seaMax seaNat1 seaNat2 Value.bool.injEq Value.int.injEq srcF lstC TV.dp IV.eqv PT.eqv PV.eqv All2 keepE hupd callZ_N AS.frz AS.frzW frzs frzsOk frzOk frzE frzA frzT frzC frzG frzH hdel cmpS eqF eqC gvs eqVs eqV decide_true resF tupA inlQ okL okGL okG nextL wkH wkC wkV nilA nilC AV.ok TV.ok CV.ok LV.ok okB forall_eq_or_imp forall_eq List.not_mem_nil List.mem_singleton true_or or_true or_false false_or exists_prop AV.t.injEq TV.one.injEq CV.iv.injEq IV.g.injEq TV.agg.injEq List.cons.injEq
theorem fnok_32 : fnOk Try.prog 32 = true := by kernel_rfl
theorem fnok_70 : fnOk Try.prog 70 = true := by kernel_rfl
theorem fnok_71 : fnOk Try.prog 71 = true := by kernel_rfl
theorem fnok_72 : fnOk Try.prog 72 = true := by kernel_rfl
theorem fnok_73 : fnOk Try.prog 73 = true := by kernel_rfl
theorem fo_80 : fieldsOk Try.prog 80 = true := by kernel_rfl
theorem of_45_0 : offOf Try.prog 45 0 = some 0 := by kernel_rfl
theorem of_45_1 : offOf Try.prog 45 1 = some 1 := by kernel_rfl
theorem of_45_2 : offOf Try.prog 45 2 = some 2 := by kernel_rfl
theorem of_80_0 : offOf Try.prog 80 0 = some 0 := by kernel_rfl
theorem of_80_1 : offOf Try.prog 80 1 = some 3 := by kernel_rfl
theorem pl_80_0 : placeF Try.prog 80 0 = some (0, 3) := by kernel_rfl
theorem pl_80_1 : placeF Try.prog 80 1 = some (3, 1) := by kernel_rfl
theorem ty_43 : tyD Try.prog 43 = some (false, 1) := by kernel_rfl
theorem ty_45 : tyD Try.prog 45 = some (true, 3) := by kernel_rfl
theorem ty_80 : tyD Try.prog 80 = some (true, 8) := by kernel_rfl
theorem zc_80 : zeroC Try.prog 80 = some [.iv (.g (.int .i64 0)), .iv (.g (.int .i64 0)), .iv (.g (.slice none 0 0)), .iv (.g (.int .i64 0)), .iv (.g (.int .i64 0)), .iv (.g (.int .i64 0)), .iv (.g (.int .i64 0)), .iv (.g (.slice none 0 0))] := by kernel_rfl

def kE (d m : Int) (q : Nat) (sq : Nat → Int) (v : Int) : Int := if kval d m q sq = true ∧ isSp v = true then (if v ≤ 100 * q then 0 else 3) else 1
def kN (d m : Int) (q : Nat) (sq : Nat → Int) (v : Int) : Int := if kE d m q sq v = 0 then needV d m sq v else 0
def lE (d m : Int) (q : Nat) (sq : Nat → Int) (v s st : Int) (n : Nat) (lo hi : Nat → Int) (f u : Int) : Int :=
  if kE d m q sq v = 1 ∨ HE s st n lo hi f u = 1 then 1 else if kE d m q sq v = 3 then 3 else HE s st n lo hi f u
def lN (d m : Int) (q : Nat) (sq : Nat → Int) (v s st : Int) (n : Nat) (lo hi : Nat → Int) (f u : Int) : Int :=
  if lE d m q sq v s st n lo hi f u = 0 then needV d m sq v - HL s st n lo hi f u else 0
theorem kval_f {d m : Int} {q : Nat} {sq : Nat → Int} (h : ((((d < 1 ∨ d > 1000) ∨ m < 0) ∨ m > 1000) ∨ (q : Int) = 0) ∨ (q : Int) > 20) : kval d m q sq = false := by
  have : decide (1 ≤ d ∧ d ≤ 1000 ∧ 0 ≤ m ∧ m ≤ 1000 ∧ 1 ≤ q ∧ q ≤ 20) = false := decide_eq_false (by omega)
  simp [kval, this]
theorem kval_e {d m : Int} {q : Nat} {sq : Nat → Int} (h : ((((1 ≤ d ∧ d ≤ 1000) ∧ 0 ≤ m) ∧ m ≤ 1000) ∧ (q : Int) ≠ 0) ∧ (q : Int) ≤ 20) : kval d m q sq = (riseB q sq && decide (0 ≤ sq 0) && decide (sq (q - 1) ≤ 1000)) := by
  have : decide (1 ≤ d ∧ d ≤ 1000 ∧ 0 ≤ m ∧ m ≤ 1000 ∧ 1 ≤ q ∧ q ≤ 20) = true := decide_eq_true (by omega)
  simp only [kval, this, Bool.true_and]
theorem need_ix {q : Nat} {v : Int} (h0 : 1 ≤ v) (h1 : v ≤ 100 * q) : 0 ≤ (v - 1) / 100 ∧ (v - 1) / 100 < q := by omega

set_option maxRecDepth 100000 in
set_option maxHeartbeats 4000000 in
theorem kvalid_p (d m : Int) (q : Nat) (sq : Nat → Int) : CallsP Try.prog 32 [shipP d m q sq] (.t (.one (.g (.bool (kval d m q sq))))) := by
  refine CallsP_of Try.func32 rfl (by rw [Try.ntmps32]; simp) ?_
  simp only [Try.ntmps32, List.map_cons, List.map_nil, PT.tv, argEnv, Nat.zero_add, Nat.reduceAdd]
  repeat' (first
    | (with_reducible refine AW_seq_k fun K hK => ?_)
    | ((first | (with_reducible refine And.intro ?_ ?_) | (with_reducible refine Need.mk ?_)); focus (first | exact True.intro | (with_reducible assumption) | omega | (refine ⟨?_, ?_⟩ <;> omega) | (intro _; first | exact True.intro | (with_reducible assumption) | omega) | (intros; (repeat' (first | exact True.intro | omega | (with_reducible assumption) | (with_reducible refine And.intro ?_ ?_))); done) | (simp (disch := omega) only [Bool.and_eq_true, Bool.or_eq_true, decide_eq_true_eq, bne_iff_ne, ne_eq] at *; first | done | omega | (intros; omega)) | (simp; done) | (simp; omega) | (simp +contextual; done) | (intro h; rw [h]; rfl) | (intros; simp_all; done)))
    | (with_reducible refine AW_skip ?_)
    | (with_reducible refine AW_exit ?_)
    | (with_reducible refine AW_ret ?_)
    | (with_reducible refine retK_n ?_)
    | (with_reducible refine retK_n' ?_)
    | (with_reducible refine retH_n rfl rfl rfl ?_)
    | (with_reducible refine retH_n' rfl rfl rfl ?_)
    | (with_reducible refine AW_condI ?_)
    | (with_reducible refine AW_block ?_)
    | ((with_reducible refine condN_t ?_ ?_) <;> (intro hc; (try simp only [Bool.and_eq_true, Bool.or_eq_true, Bool.not_eq_true', Bool.and_eq_false_iff, Bool.or_eq_false_iff, decide_eq_true_eq, decide_eq_false_iff_not, bne_iff_ne, beq_iff_eq, reduceCtorEq, bne_eq_false_iff_eq, beq_eq_false_iff_ne, Bool.not_eq_false', Int.not_le, Int.not_lt, Bool.not_not] at hc); (try (exfalso; first | contradiction | omega))))
    | (with_reducible refine AW_regionP 0 [0] ?_)
    | (with_reducible refine AW_regionP 1 [1] ?_)
    | (with_reducible refine AW_regionP 2 [1, 3] ?_)
    | (with_reducible refine AW_regionP 3 [] ?_)
    | (with_reducible refine AW_regionP 4 [1, 3] ?_)
    | (refine callN_q (k := 70) fnok_70 (sorted_p _ _ (by omega)) ?_ ?_)
    | ((fail_if_success (with_reducible show AW _ _ _ _)); simp (maxSteps := 2000000) only [go_sem, reduceIte, reduceCtorEq, Nat.reduceAdd, Nat.reduceLT, Nat.reduceLeDiff, Nat.reduceEqDiff, Nat.reduceMul, Nat.reduceSub, Nat.reduceBEq, Try.f32, of_45_2, ty_43, le_43, of_45_0, ty_3, of_45_1, fnok_70, sl_43, ar_43, sqF0, ge_iff_le])
    | ((fail_if_success (with_reducible show AW _ _ _ _)); simp (disch := omega) only [seaWrap, seaDiv, seaMod])
    | ((with_reducible refine hK _ ?_); clear hK K))
  all_goals (refine Eq.symm ?_; first | exact kval_f (by assumption) | exact kval_e (by assumption))

set_option maxRecDepth 100000 in
set_option maxHeartbeats 4000000 in
theorem svalid_p (d m : Int) (q : Nat) (sq : Nat → Int) (v dp s st : Int) (n : Nat) (lo hi : Nat → Int) : CallsP Try.prog 71 [sailP d m q sq v dp s st n lo hi] (.t (.one (.g (.bool (kval d m q sq && isSp v))))) := by
  refine CallsP_of Try.func71 rfl (by rw [Try.ntmps71]; simp) ?_
  simp only [Try.ntmps71, List.map_cons, List.map_nil, PT.tv, argEnv, Nat.zero_add, Nat.reduceAdd]
  repeat' (first
    | (with_reducible refine AW_seq_k fun K hK => ?_)
    | ((first | (with_reducible refine And.intro ?_ ?_) | (with_reducible refine Need.mk ?_)); focus (first | exact True.intro | (with_reducible assumption) | omega | (refine ⟨?_, ?_⟩ <;> omega) | (intro _; first | exact True.intro | (with_reducible assumption) | omega) | (intros; (repeat' (first | exact True.intro | omega | (with_reducible assumption) | (with_reducible refine And.intro ?_ ?_))); done) | (simp (disch := omega) only [Bool.and_eq_true, Bool.or_eq_true, decide_eq_true_eq, bne_iff_ne, ne_eq] at *; first | done | omega | (intros; omega)) | (simp; done) | (simp; omega) | (simp +contextual; done) | (intro h; rw [h]; rfl) | (intros; simp_all; done)))
    | (with_reducible refine AW_skip ?_)
    | (with_reducible refine AW_exit ?_)
    | (with_reducible refine AW_ret ?_)
    | (with_reducible refine retK_n ?_)
    | (with_reducible refine retK_n' ?_)
    | (with_reducible refine retH_n rfl rfl rfl ?_)
    | (with_reducible refine retH_n' rfl rfl rfl ?_)
    | (with_reducible refine AW_condI ?_)
    | (with_reducible refine AW_block ?_)
    | ((with_reducible refine condN_t ?_ ?_) <;> (intro hc; (try simp only [Bool.and_eq_true, Bool.or_eq_true, Bool.not_eq_true', Bool.and_eq_false_iff, Bool.or_eq_false_iff, decide_eq_true_eq, decide_eq_false_iff_not, bne_iff_ne, beq_iff_eq, reduceCtorEq, bne_eq_false_iff_eq, beq_eq_false_iff_ne, Bool.not_eq_false', Int.not_le, Int.not_lt, Bool.not_not] at hc); (try (exfalso; first | contradiction | omega))))
    | (with_reducible refine AW_regionP 0 [0] ?_)
    | (with_reducible refine AW_regionP 1 [1] ?_)
    | (refine callN_q (k := 32) fnok_32 (kvalid_p _ _ _ _) ?_ ?_)
    | ((fail_if_success (with_reducible show AW _ _ _ _)); simp (maxSteps := 2000000) only [go_sem, reduceIte, reduceCtorEq, Nat.reduceAdd, Nat.reduceLT, Nat.reduceLeDiff, Nat.reduceEqDiff, Nat.reduceMul, Nat.reduceSub, Nat.reduceBEq, Try.f71, of_80_0, ty_45, fnok_32, of_80_1, ty_3, isSp])
    | ((with_reducible refine hK _ ?_); clear hK K))
  all_goals (refine Bool.eq_iff_iff.2 ?_; simp only [Bool.and_eq_true, decide_eq_true_eq]; (constructor <;> (intro h; simp_all)))

set_option maxRecDepth 100000 in
set_option maxHeartbeats 4000000 in
theorem sfits_p (d m : Int) (q : Nat) (sq : Nat → Int) (v dp s st : Int) (n : Nat) (lo hi : Nat → Int) (hq : q ≤ 20) : CallsP Try.prog 72 [sailP d m q sq v dp s st n lo hi] (.t (.one (.g (.bool (decide (v ≤ 100 * q)))))) := by
  refine CallsP_of Try.func72 rfl (by rw [Try.ntmps72]; simp) ?_
  simp only [Try.ntmps72, List.map_cons, List.map_nil, PT.tv, argEnv, Nat.zero_add, Nat.reduceAdd]
  repeat' (first
    | (with_reducible refine AW_seq_k fun K hK => ?_)
    | ((first | (with_reducible refine And.intro ?_ ?_) | (with_reducible refine Need.mk ?_)); focus (first | exact True.intro | (with_reducible assumption) | omega | (refine ⟨?_, ?_⟩ <;> omega) | (intro _; first | exact True.intro | (with_reducible assumption) | omega) | (intros; (repeat' (first | exact True.intro | omega | (with_reducible assumption) | (with_reducible refine And.intro ?_ ?_))); done) | (simp (disch := omega) only [Bool.and_eq_true, Bool.or_eq_true, decide_eq_true_eq, bne_iff_ne, ne_eq] at *; first | done | omega | (intros; omega)) | (simp; done) | (simp; omega) | (simp +contextual; done) | (intro h; rw [h]; rfl) | (intros; simp_all; done)))
    | (with_reducible refine AW_skip ?_)
    | (with_reducible refine AW_exit ?_)
    | (with_reducible refine AW_ret ?_)
    | (with_reducible refine retK_n ?_)
    | (with_reducible refine retK_n' ?_)
    | (with_reducible refine retH_n rfl rfl rfl ?_)
    | (with_reducible refine retH_n' rfl rfl rfl ?_)
    | (with_reducible refine AW_condI ?_)
    | (with_reducible refine AW_block ?_)
    | ((with_reducible refine condN_t ?_ ?_) <;> (intro hc; (try simp only [Bool.and_eq_true, Bool.or_eq_true, Bool.not_eq_true', Bool.and_eq_false_iff, Bool.or_eq_false_iff, decide_eq_true_eq, decide_eq_false_iff_not, bne_iff_ne, beq_iff_eq, reduceCtorEq, bne_eq_false_iff_eq, beq_eq_false_iff_ne, Bool.not_eq_false', Int.not_le, Int.not_lt, Bool.not_not] at hc); (try (exfalso; first | contradiction | omega))))
    | (with_reducible refine AW_regionP 0 [0] ?_)
    | (with_reducible refine AW_regionP 1 [1] ?_)
    | ((fail_if_success (with_reducible show AW _ _ _ _)); simp (maxSteps := 2000000) only [go_sem, reduceIte, reduceCtorEq, Nat.reduceAdd, Nat.reduceLT, Nat.reduceLeDiff, Nat.reduceEqDiff, Nat.reduceMul, Nat.reduceSub, Nat.reduceBEq, Try.f72, of_80_1, ty_3, of_80_0, of_45_2, ty_43, le_43])
    | ((fail_if_success (with_reducible show AW _ _ _ _)); simp (disch := omega) only [seaWrap, seaDiv, seaMod])
    | ((with_reducible refine hK _ ?_); clear hK K))

set_option maxRecDepth 100000 in
set_option maxHeartbeats 4000000 in
theorem sneed_0 (d m : Int) (q : Nat) (sq : Nat → Int) (v dp s st : Int) (n : Nat) (lo hi : Nat → Int) (hk : kval d m q sq = true) (hv : v = 0) : CallsP Try.prog 73 [sailP d m q sq v dp s st n lo hi] (.t (.one (.g (.int .i64 (d + m))))) := by
  obtain ⟨g1, g2, g3, g4, g5, g6, _, _⟩ := kval_kv hk
  refine CallsP_of Try.func73 rfl (by rw [Try.ntmps73]; simp) ?_
  simp only [Try.ntmps73, List.map_cons, List.map_nil, PT.tv, argEnv, Nat.zero_add, Nat.reduceAdd]
  repeat' (first
    | (with_reducible refine AW_seq_k fun K hK => ?_)
    | ((first | (with_reducible refine And.intro ?_ ?_) | (with_reducible refine Need.mk ?_)); focus (first | exact True.intro | (with_reducible assumption) | omega | (refine ⟨?_, ?_⟩ <;> omega) | (intro _; first | exact True.intro | (with_reducible assumption) | omega) | (intros; (repeat' (first | exact True.intro | omega | (with_reducible assumption) | (with_reducible refine And.intro ?_ ?_))); done) | (simp (disch := omega) only [Bool.and_eq_true, Bool.or_eq_true, decide_eq_true_eq, bne_iff_ne, ne_eq] at *; first | done | omega | (intros; omega)) | (simp; done) | (simp; omega) | (simp +contextual; done) | (intro h; rw [h]; rfl) | (intros; simp_all; done)))
    | (with_reducible refine AW_skip ?_)
    | (with_reducible refine AW_exit ?_)
    | (with_reducible refine AW_ret ?_)
    | (with_reducible refine retK_n ?_)
    | (with_reducible refine retK_n' ?_)
    | (with_reducible refine retH_n rfl rfl rfl ?_)
    | (with_reducible refine retH_n' rfl rfl rfl ?_)
    | (with_reducible refine AW_condI ?_)
    | (with_reducible refine AW_block ?_)
    | ((with_reducible refine condN_t ?_ ?_) <;> (intro hc; (try simp only [Bool.and_eq_true, Bool.or_eq_true, Bool.not_eq_true', Bool.and_eq_false_iff, Bool.or_eq_false_iff, decide_eq_true_eq, decide_eq_false_iff_not, bne_iff_ne, beq_iff_eq, reduceCtorEq, bne_eq_false_iff_eq, beq_eq_false_iff_ne, Bool.not_eq_false', Int.not_le, Int.not_lt, Bool.not_not] at hc); (try (exfalso; first | contradiction | omega))))
    | (with_reducible refine AW_regionP 0 [0] ?_)
    | (with_reducible refine AW_regionP 1 [1] ?_)
    | (with_reducible refine AW_regionP 2 [1] ?_)
    | ((with_reducible refine AW_prune (c := Code.region 3 _ true) [1] ?_); (with_reducible refine AW_regionD ?_ ?_ ?_ ?_); (focus kernel_rfl); (focus kernel_rfl); (focus kernel_rfl))
    | ((with_reducible refine And.intro ?_ ?_); focus ((with_reducible show chkR _ _ _ = true); kernel_rfl))
    | ((fail_if_success (with_reducible show AW _ _ _ _)); simp (maxSteps := 2000000) only [go_sem, reduceIte, reduceCtorEq, Nat.reduceAdd, Nat.reduceLT, Nat.reduceLeDiff, Nat.reduceEqDiff, Nat.reduceMul, Nat.reduceSub, Nat.reduceBEq, Try.f73, of_80_1, ty_3, of_80_0, of_45_0, of_45_1, of_45_2, ty_43, sl_43, ar_43, hv, sqF0])
    | ((fail_if_success (with_reducible show AW _ _ _ _)); simp (disch := omega) only [seaWrap, seaDiv, seaMod])
    | ((with_reducible refine hK _ ?_); clear hK K))

set_option maxRecDepth 100000 in
set_option maxHeartbeats 4000000 in
theorem sneed_1 (d m : Int) (q : Nat) (sq : Nat → Int) (v dp s st : Int) (n : Nat) (lo hi : Nat → Int) (hk : kval d m q sq = true) (hv : ¬ v = 0) (h0 : 1 ≤ v) (h1 : v ≤ 100 * q) (i0 : 0 ≤ (v - 1) / 100) (i1 : (v - 1) / 100 < q) (b0 : 0 ≤ sq ((v - 1) / 100).toNat) (b1 : sq ((v - 1) / 100).toNat ≤ 1000) : CallsP Try.prog 73 [sailP d m q sq v dp s st n lo hi] (.t (.one (.g (.int .i64 (d + m + sq ((v - 1) / 100).toNat))))) := by
  obtain ⟨g1, g2, g3, g4, g5, g6, _, _⟩ := kval_kv hk
  refine CallsP_of Try.func73 rfl (by rw [Try.ntmps73]; simp) ?_
  simp only [Try.ntmps73, List.map_cons, List.map_nil, PT.tv, argEnv, Nat.zero_add, Nat.reduceAdd]
  repeat' (first
    | (with_reducible refine AW_seq_k fun K hK => ?_)
    | ((first | (with_reducible refine And.intro ?_ ?_) | (with_reducible refine Need.mk ?_)); focus (first | exact True.intro | (with_reducible assumption) | omega | (refine ⟨?_, ?_⟩ <;> omega) | (intro _; first | exact True.intro | (with_reducible assumption) | omega) | (intros; (repeat' (first | exact True.intro | omega | (with_reducible assumption) | (with_reducible refine And.intro ?_ ?_))); done) | (simp (disch := omega) only [Bool.and_eq_true, Bool.or_eq_true, decide_eq_true_eq, bne_iff_ne, ne_eq] at *; first | done | omega | (intros; omega)) | (simp; done) | (simp; omega) | (simp +contextual; done) | (intro h; rw [h]; rfl) | (intros; simp_all; done)))
    | (with_reducible refine AW_skip ?_)
    | (with_reducible refine AW_exit ?_)
    | (with_reducible refine AW_ret ?_)
    | (with_reducible refine retK_n ?_)
    | (with_reducible refine retK_n' ?_)
    | (with_reducible refine retH_n rfl rfl rfl ?_)
    | (with_reducible refine retH_n' rfl rfl rfl ?_)
    | (with_reducible refine AW_condI ?_)
    | (with_reducible refine AW_block ?_)
    | ((with_reducible refine condN_t ?_ ?_) <;> (intro hc; (try simp only [Bool.and_eq_true, Bool.or_eq_true, Bool.not_eq_true', Bool.and_eq_false_iff, Bool.or_eq_false_iff, decide_eq_true_eq, decide_eq_false_iff_not, bne_iff_ne, beq_iff_eq, reduceCtorEq, bne_eq_false_iff_eq, beq_eq_false_iff_ne, Bool.not_eq_false', Int.not_le, Int.not_lt, Bool.not_not] at hc); (try (exfalso; first | contradiction | omega))))
    | (with_reducible refine AW_regionP 0 [0] ?_)
    | (with_reducible refine AW_regionP 1 [1] ?_)
    | (with_reducible refine AW_regionP 2 [1] ?_)
    | ((with_reducible refine AW_prune (c := Code.region 3 _ true) [1] ?_); (with_reducible refine AW_regionD ?_ ?_ ?_ ?_); (focus kernel_rfl); (focus kernel_rfl); (focus kernel_rfl))
    | ((with_reducible refine And.intro ?_ ?_); focus ((with_reducible show chkR _ _ _ = true); kernel_rfl))
    | ((fail_if_success (with_reducible show AW _ _ _ _)); simp (maxSteps := 2000000) only [go_sem, reduceIte, reduceCtorEq, Nat.reduceAdd, Nat.reduceLT, Nat.reduceLeDiff, Nat.reduceEqDiff, Nat.reduceMul, Nat.reduceSub, Nat.reduceBEq, Try.f73, of_80_1, ty_3, of_80_0, of_45_0, of_45_1, of_45_2, ty_43, sl_43, ar_43, sqF0])
    | ((fail_if_success (with_reducible show AW _ _ _ _)); simp (disch := omega) only [seaWrap, seaDiv, seaMod])
    | ((with_reducible refine hK _ ?_); clear hK K))

theorem sneed_p (d m : Int) (q : Nat) (sq : Nat → Int) (v dp s st : Int) (n : Nat) (lo hi : Nat → Int) (hk : kval d m q sq = true) (h0 : 0 ≤ v) (h1 : v ≤ 100 * q) : CallsP Try.prog 73 [sailP d m q sq v dp s st n lo hi] (.t (.one (.g (.int .i64 (needV d m sq v))))) := by
  by_cases hv : v = 0
  · rw [needV, if_pos hv]; exact sneed_0 d m q sq v dp s st n lo hi hk hv
  · obtain ⟨i0, i1⟩ := need_ix (q := q) (v := v) (by omega) h1
    obtain ⟨b0, b1⟩ := (kval_kv hk).bd ((v - 1) / 100).toNat (by omega)
    rw [needV, if_neg hv]; exact sneed_1 d m q sq v dp s st n lo hi hk hv (by omega) h1 i0 i1 b0 b1
theorem isSp_bd {v : Int} (h : isSp v = true) : 0 ≤ v ∧ v ≤ 2000 := of_decide_eq_true h
theorem kE_1 {d m : Int} {q : Nat} {sq : Nat → Int} {v : Int} (h : kval d m q sq = false ∨ isSp v = false) : kE d m q sq v = 1 := by
  unfold kE; rw [if_neg]; rintro ⟨a, b⟩; rw [a, b] at h; simp at h
theorem kE_3 {d m : Int} {q : Nat} {sq : Nat → Int} {v : Int} (h : kval d m q sq = true ∧ isSp v = true) (h2 : 100 * (q : Int) < v) : kE d m q sq v = 3 := by
  unfold kE; rw [if_pos h, if_neg (by omega)]
theorem kE_0 {d m : Int} {q : Nat} {sq : Nat → Int} {v : Int} (h : kval d m q sq = true ∧ isSp v = true) (h2 : v ≤ 100 * q) : kE d m q sq v = 0 := by
  unfold kE; rw [if_pos h, if_pos h2]
theorem kE_c (d m : Int) (q : Nat) (sq : Nat → Int) (v : Int) : ((kval d m q sq && isSp v) = false ∧ kE d m q sq v = 1) ∨ (kval d m q sq = true ∧ isSp v = true ∧ 0 ≤ v ∧ v ≤ 2000 ∧ q ≤ 20 ∧ 100 * (q : Int) < v ∧ kE d m q sq v = 3) ∨ (kval d m q sq = true ∧ isSp v = true ∧ 0 ≤ v ∧ v ≤ 2000 ∧ q ≤ 20 ∧ v ≤ 100 * (q : Int) ∧ kE d m q sq v = 0) := by
  cases a : kval d m q sq with
  | false => exact Or.inl ⟨rfl, kE_1 (Or.inl a)⟩
  | true =>
    cases b : isSp v with
    | false => exact Or.inl ⟨rfl, kE_1 (Or.inr b)⟩
    | true =>
      have := isSp_bd b
      have := (kval_kv a).q1
      by_cases c : v ≤ 100 * (q : Int)
      · exact Or.inr (Or.inr ⟨rfl, rfl, by omega, by omega, by omega, c, kE_0 ⟨a, b⟩ c⟩)
      · exact Or.inr (Or.inl ⟨rfl, rfl, by omega, by omega, by omega, by omega, kE_3 ⟨a, b⟩ (by omega)⟩)

set_option maxRecDepth 100000 in
set_option maxHeartbeats 4000000 in
theorem kneed_1 (d m : Int) (q : Nat) (sq : Nat → Int) (v : Int) (hh : (kval d m q sq && isSp v) = false) : CallsP Try.prog 34 [shipP d m q sq, .one (.g (.int .i64 (v)))] (.tup [.one (.g (.int .i64 (0))), .one (.g (.int .i64 (1)))]) := by
  refine CallsP_of Try.func34 rfl (by rw [Try.ntmps34]; simp) ?_
  simp only [Try.ntmps34, List.map_cons, List.map_nil, PT.tv, argEnv, Nat.zero_add, Nat.reduceAdd]
  repeat' (first
    | (with_reducible refine AW_seq_k fun K hK => ?_)
    | ((first | (with_reducible refine And.intro ?_ ?_) | (with_reducible refine Need.mk ?_)); focus (first | exact True.intro | (with_reducible assumption) | omega | (refine ⟨?_, ?_⟩ <;> omega) | (intro _; first | exact True.intro | (with_reducible assumption) | omega) | (intros; (repeat' (first | exact True.intro | omega | (with_reducible assumption) | (with_reducible refine And.intro ?_ ?_))); done) | (simp (disch := omega) only [Bool.and_eq_true, Bool.or_eq_true, decide_eq_true_eq, bne_iff_ne, ne_eq] at *; first | done | omega | (intros; omega)) | (simp; done) | (simp; omega) | (simp +contextual; done) | (intro h; rw [h]; rfl) | (intros; simp_all; done)))
    | (with_reducible refine AW_skip ?_)
    | (with_reducible refine AW_exit ?_)
    | (with_reducible refine AW_ret ?_)
    | (with_reducible refine retK_n ?_)
    | (with_reducible refine retK_n' ?_)
    | (with_reducible refine retH_n rfl rfl rfl ?_)
    | (with_reducible refine retH_n' rfl rfl rfl ?_)
    | (with_reducible refine AW_condI ?_)
    | (with_reducible refine AW_block ?_)
    | ((with_reducible refine condN_t ?_ ?_) <;> (intro hc; (try simp only [Bool.and_eq_true, Bool.or_eq_true, Bool.not_eq_true', Bool.and_eq_false_iff, Bool.or_eq_false_iff, decide_eq_true_eq, decide_eq_false_iff_not, bne_iff_ne, beq_iff_eq, reduceCtorEq, bne_eq_false_iff_eq, beq_eq_false_iff_ne, Bool.not_eq_false', Int.not_le, Int.not_lt, Bool.not_not] at hc); (try (exfalso; first | contradiction | omega))))
    | (with_reducible refine AW_regionP 0 [0, 1] ?_)
    | (with_reducible refine AW_regionP 1 [1, 2] ?_)
    | (with_reducible refine AW_regionP 2 [6] ?_)
    | (with_reducible refine AW_regionP 3 [] ?_)
    | (with_reducible refine AW_regionP 4 [6] ?_)
    | (with_reducible refine AW_regionP 5 [] ?_)
    | (with_reducible refine AW_regionP 6 [6] ?_)
    | (refine callN_q (k := 71) fnok_71 ((svalid_p d m q sq v 0 0 0 0 (fun _ => 0) (fun _ => 0)).eqv (⟨⟨rfl, rfl, IV.eqv_refl _, rfl, rfl, rfl, rfl, ⟨rfl, rfl⟩, trivial⟩, trivial⟩) (PV.eqv_refl _)) ?_ ?_)
    | ((fail_if_success (with_reducible show AW _ _ _ _)); simp (maxSteps := 2000000) only [go_sem, reduceIte, reduceCtorEq, Nat.reduceAdd, Nat.reduceLT, Nat.reduceLeDiff, Nat.reduceEqDiff, Nat.reduceMul, Nat.reduceSub, Nat.reduceBEq, Try.f34, ty_45, zc_80, fo_80, pl_80_0, pl_80_1, ty_80, fnok_71, fnok_72, fnok_73, hh])
    | ((with_reducible refine hK _ ?_); clear hK K))

set_option maxRecDepth 100000 in
set_option maxHeartbeats 4000000 in
theorem kneed_3 (d m : Int) (q : Nat) (sq : Nat → Int) (v : Int) (hk : kval d m q sq = true) (hs : isSp v = true) (v0 : 0 ≤ v) (v1 : v ≤ 2000) (q1 : q ≤ 20) (c : 100 * (q : Int) < v) : CallsP Try.prog 34 [shipP d m q sq, .one (.g (.int .i64 (v)))] (.tup [.one (.g (.int .i64 (0))), .one (.g (.int .i64 (3)))]) := by
  refine CallsP_of Try.func34 rfl (by rw [Try.ntmps34]; simp) ?_
  simp only [Try.ntmps34, List.map_cons, List.map_nil, PT.tv, argEnv, Nat.zero_add, Nat.reduceAdd]
  repeat' (first
    | (with_reducible refine AW_seq_k fun K hK => ?_)
    | ((first | (with_reducible refine And.intro ?_ ?_) | (with_reducible refine Need.mk ?_)); focus (first | exact True.intro | (with_reducible assumption) | omega | (refine ⟨?_, ?_⟩ <;> omega) | (intro _; first | exact True.intro | (with_reducible assumption) | omega) | (intros; (repeat' (first | exact True.intro | omega | (with_reducible assumption) | (with_reducible refine And.intro ?_ ?_))); done) | (simp (disch := omega) only [Bool.and_eq_true, Bool.or_eq_true, decide_eq_true_eq, bne_iff_ne, ne_eq] at *; first | done | omega | (intros; omega)) | (simp; done) | (simp; omega) | (simp +contextual; done) | (intro h; rw [h]; rfl) | (intros; simp_all; done)))
    | (with_reducible refine AW_skip ?_)
    | (with_reducible refine AW_exit ?_)
    | (with_reducible refine AW_ret ?_)
    | (with_reducible refine retK_n ?_)
    | (with_reducible refine retK_n' ?_)
    | (with_reducible refine retH_n rfl rfl rfl ?_)
    | (with_reducible refine retH_n' rfl rfl rfl ?_)
    | (with_reducible refine AW_condI ?_)
    | (with_reducible refine AW_block ?_)
    | ((with_reducible refine condN_t ?_ ?_) <;> (intro hc; (try simp only [Bool.and_eq_true, Bool.or_eq_true, Bool.not_eq_true', Bool.and_eq_false_iff, Bool.or_eq_false_iff, decide_eq_true_eq, decide_eq_false_iff_not, bne_iff_ne, beq_iff_eq, reduceCtorEq, bne_eq_false_iff_eq, beq_eq_false_iff_ne, Bool.not_eq_false', Int.not_le, Int.not_lt, Bool.not_not] at hc); (try (exfalso; first | contradiction | omega))))
    | (with_reducible refine AW_regionP 0 [0, 1] ?_)
    | (with_reducible refine AW_regionP 1 [1, 2] ?_)
    | (with_reducible refine AW_regionP 2 [6] ?_)
    | (with_reducible refine AW_regionP 3 [] ?_)
    | (with_reducible refine AW_regionP 4 [6] ?_)
    | (with_reducible refine AW_regionP 5 [] ?_)
    | (with_reducible refine AW_regionP 6 [6] ?_)
    | (refine callN_q (k := 71) fnok_71 ((svalid_p d m q sq v 0 0 0 0 (fun _ => 0) (fun _ => 0)).eqv (⟨⟨rfl, rfl, IV.eqv_refl _, rfl, rfl, rfl, rfl, ⟨rfl, rfl⟩, trivial⟩, trivial⟩) (PV.eqv_refl _)) ?_ ?_)
    | (refine callN_q (k := 72) fnok_72 ((sfits_p d m q sq v 0 0 0 0 (fun _ => 0) (fun _ => 0) (by omega)).eqv (⟨⟨rfl, rfl, IV.eqv_refl _, rfl, rfl, rfl, rfl, ⟨rfl, rfl⟩, trivial⟩, trivial⟩) (PV.eqv_refl _)) ?_ ?_)
    | ((fail_if_success (with_reducible show AW _ _ _ _)); simp (maxSteps := 2000000) only [go_sem, reduceIte, reduceCtorEq, Nat.reduceAdd, Nat.reduceLT, Nat.reduceLeDiff, Nat.reduceEqDiff, Nat.reduceMul, Nat.reduceSub, Nat.reduceBEq, Try.f34, ty_45, zc_80, fo_80, pl_80_0, pl_80_1, ty_80, fnok_71, fnok_72, fnok_73, hk, hs])
    | ((with_reducible refine hK _ ?_); clear hK K))

set_option maxRecDepth 100000 in
set_option maxHeartbeats 4000000 in
theorem kneed_0 (d m : Int) (q : Nat) (sq : Nat → Int) (v : Int) (hk : kval d m q sq = true) (hs : isSp v = true) (v0 : 0 ≤ v) (v1 : v ≤ 2000) (q1 : q ≤ 20) (c : v ≤ 100 * (q : Int)) : CallsP Try.prog 34 [shipP d m q sq, .one (.g (.int .i64 (v)))] (.tup [.one (.g (.int .i64 (needV d m sq v))), .one (.g (.int .i64 (0)))]) := by
  refine CallsP_of Try.func34 rfl (by rw [Try.ntmps34]; simp) ?_
  simp only [Try.ntmps34, List.map_cons, List.map_nil, PT.tv, argEnv, Nat.zero_add, Nat.reduceAdd]
  repeat' (first
    | (with_reducible refine AW_seq_k fun K hK => ?_)
    | ((first | (with_reducible refine And.intro ?_ ?_) | (with_reducible refine Need.mk ?_)); focus (first | exact True.intro | (with_reducible assumption) | omega | (refine ⟨?_, ?_⟩ <;> omega) | (intro _; first | exact True.intro | (with_reducible assumption) | omega) | (intros; (repeat' (first | exact True.intro | omega | (with_reducible assumption) | (with_reducible refine And.intro ?_ ?_))); done) | (simp (disch := omega) only [Bool.and_eq_true, Bool.or_eq_true, decide_eq_true_eq, bne_iff_ne, ne_eq] at *; first | done | omega | (intros; omega)) | (simp; done) | (simp; omega) | (simp +contextual; done) | (intro h; rw [h]; rfl) | (intros; simp_all; done)))
    | (with_reducible refine AW_skip ?_)
    | (with_reducible refine AW_exit ?_)
    | (with_reducible refine AW_ret ?_)
    | (with_reducible refine retK_n ?_)
    | (with_reducible refine retK_n' ?_)
    | (with_reducible refine retH_n rfl rfl rfl ?_)
    | (with_reducible refine retH_n' rfl rfl rfl ?_)
    | (with_reducible refine AW_condI ?_)
    | (with_reducible refine AW_block ?_)
    | ((with_reducible refine condN_t ?_ ?_) <;> (intro hc; (try simp only [Bool.and_eq_true, Bool.or_eq_true, Bool.not_eq_true', Bool.and_eq_false_iff, Bool.or_eq_false_iff, decide_eq_true_eq, decide_eq_false_iff_not, bne_iff_ne, beq_iff_eq, reduceCtorEq, bne_eq_false_iff_eq, beq_eq_false_iff_ne, Bool.not_eq_false', Int.not_le, Int.not_lt, Bool.not_not] at hc); (try (exfalso; first | contradiction | omega))))
    | (with_reducible refine AW_regionP 0 [0, 1] ?_)
    | (with_reducible refine AW_regionP 1 [1, 2] ?_)
    | (with_reducible refine AW_regionP 2 [6] ?_)
    | (with_reducible refine AW_regionP 3 [] ?_)
    | (with_reducible refine AW_regionP 4 [6] ?_)
    | (with_reducible refine AW_regionP 5 [] ?_)
    | (with_reducible refine AW_regionP 6 [6] ?_)
    | (refine callN_q (k := 71) fnok_71 ((svalid_p d m q sq v 0 0 0 0 (fun _ => 0) (fun _ => 0)).eqv (⟨⟨rfl, rfl, IV.eqv_refl _, rfl, rfl, rfl, rfl, ⟨rfl, rfl⟩, trivial⟩, trivial⟩) (PV.eqv_refl _)) ?_ ?_)
    | (refine callN_q (k := 72) fnok_72 ((sfits_p d m q sq v 0 0 0 0 (fun _ => 0) (fun _ => 0) (by omega)).eqv (⟨⟨rfl, rfl, IV.eqv_refl _, rfl, rfl, rfl, rfl, ⟨rfl, rfl⟩, trivial⟩, trivial⟩) (PV.eqv_refl _)) ?_ ?_)
    | (refine callN_q (k := 73) fnok_73 ((sneed_p d m q sq v 0 0 0 0 (fun _ => 0) (fun _ => 0) hk v0 c).eqv (⟨⟨rfl, rfl, IV.eqv_refl _, rfl, rfl, rfl, rfl, ⟨rfl, rfl⟩, trivial⟩, trivial⟩) (PV.eqv_refl _)) ?_ ?_)
    | ((fail_if_success (with_reducible show AW _ _ _ _)); simp (maxSteps := 2000000) only [go_sem, reduceIte, reduceCtorEq, Nat.reduceAdd, Nat.reduceLT, Nat.reduceLeDiff, Nat.reduceEqDiff, Nat.reduceMul, Nat.reduceSub, Nat.reduceBEq, Try.f34, ty_45, zc_80, fo_80, pl_80_0, pl_80_1, ty_80, fnok_71, fnok_72, fnok_73, hk, hs])
    | ((with_reducible refine hK _ ?_); clear hK K))

theorem kneed_p (d m : Int) (q : Nat) (sq : Nat → Int) (v : Int) : CallsP Try.prog 34 [shipP d m q sq, .one (.g (.int .i64 (v)))] (.tup [.one (.g (.int .i64 (kN d m q sq v))), .one (.g (.int .i64 (kE d m q sq v)))]) := by
  unfold kN
  rcases kE_c d m q sq v with ⟨h, e⟩ | ⟨h1, h2, h3, h4, h5, h6, e⟩ | ⟨h1, h2, h3, h4, h5, h6, e⟩
  · rw [e, if_neg (by omega)]; exact kneed_1 d m q sq v h
  · rw [e, if_neg (by omega)]; exact kneed_3 d m q sq v h1 h2 h3 h4 h5 h6
  · rw [e, if_pos rfl]; exact kneed_0 d m q sq v h1 h2 h3 h4 h5 h6

end Go.Proofs.Ythfnmooeijneoaa
