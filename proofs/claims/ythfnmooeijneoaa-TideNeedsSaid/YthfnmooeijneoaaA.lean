/- A: walks on abstract states. -/
import Derived.Test.YthfnmooeijneoaaTP
import Derived.Test.YthfnmooeijneoaaSeaV
import Derived.Test.YthfnmooeijneoaaProg
set_option linter.unusedVariables false
set_option linter.unusedSimpArgs false
namespace Go.Proofs.Ythfnmooeijneoaa
open Go.RowKit Go.Sea
attribute [local go_sem] callK_N gf gk gdrop lkL setL lsF ltAll rdyL bodyF roundQ roundS loopQ loopS jumpOf inLs yV yA bAV zipPut purgeG List.tail_cons Option.isNone_none Option.isNone_some callGK_f callDK_f callDGK_f retN retHN blockA arun_nil arun_plain arun_guard plainF guardF guardB arunD_nil arunD_plain arunD_guard plainDF guardDF guardDB AS.ent Eff.noApp Eff.tgt ftF AV.refs TV.refs CV.refs LV.refs Op.operands Call.operands List.append_toArray List.push_toArray List.flatMap_cons List.flatMap_nil List.toList_toArray Option.toArray List.reverse_cons List.reverse_nil opF AS.ev constA lk AS.get AV.tv AV.nd AS.eff AS.put argEnv PT.tv PV.av AV.mbOf hset hget TV.cells dstOk thenA gB isB toB TV.bool? TV.int? intF loadF storeF fieldF indexF lenF sliceF optI appF minmaxF ipCells fillF repC partsF lvsF TV.lv LV.tv purgeE purgeC purgeH AV.purge CV.purge AV.has TV.has CV.has LV.has calleeF argsF tvsF toPT toIV toIVs toPTs toPV civ isIv iA bA List.map_cons List.map_nil List.length_nil List.length_cons List.getElem?_cons_zero List.getElem?_cons_succ List.getElem?_nil Option.getD_some Option.getD_none Option.bind_some Option.bind_none List.take_succ_cons List.take_zero List.drop_succ_cons List.drop_zero List.take_nil List.drop_nil List.cons_append List.nil_append List.append_nil List.getD_cons_zero List.getD_cons_succ Option.map_some Option.map_none Option.isSome_some Option.isSome_none List.size_toArray List.any_cons List.any_nil List.mem_cons if_true if_false ite_true ite_false cond_true cond_false Nat.zero_add Nat.add_zero Nat.sub_zero Nat.le_refl Nat.zero_mul Nat.mul_zero Nat.one_mul Nat.mul_one Int.toNat_zero Int.toNat_natCast Bool.or_false Bool.false_or Bool.or_true Bool.true_or Bool.and_true Bool.true_and Bool.and_false Bool.false_and beq_self_eq_true beq_true beq_false Bool.not_true Bool.not_false and_true true_and and_false false_and and_self imp_self Bool.cond_false_right Bool.cond_true_left implies_true forall_const true_implies false_implies Option.some.injEq Prod.mk.injEq ne_eq not_false_eq_true not_true_eq_false eq_self Nat.lt_irrefl Nat.not_lt_zero boF seaMin seaMax seaNat1 seaNat2 Value.bool.injEq Value.int.injEq srcF lstC TV.dp IV.eqv PT.eqv PV.eqv All2 keepE hupd callZ_N AS.frz AS.frzW frzs frzsOk frzOk frzE frzA frzT frzC frzG frzH hdel cmpS eqF eqC gvs eqVs eqV decide_true resF tupA inlQ okL okGL okG nextL wkH wkC wkV nilA nilC AV.ok TV.ok CV.ok LV.ok okB forall_eq_or_imp forall_eq List.not_mem_nil List.mem_singleton true_or or_true or_false false_or exists_prop AV.t.injEq TV.one.injEq CV.iv.injEq IV.g.injEq TV.agg.injEq List.cons.injEq
theorem ar_22 : arD Try.prog 22 = none := by kernel_rfl
theorem fnok_49 : fnOk Try.prog 49 = true := by kernel_rfl
theorem fnok_50 : fnOk Try.prog 50 = true := by kernel_rfl
theorem fnok_51 : fnOk Try.prog 51 = true := by kernel_rfl
theorem fnok_52 : fnOk Try.prog 52 = true := by kernel_rfl
theorem fnok_53 : fnOk Try.prog 53 = true := by kernel_rfl
theorem fnok_64 : fnOk Try.prog 64 = true := by kernel_rfl
theorem fnok_66 : fnOk Try.prog 66 = true := by kernel_rfl
theorem fnok_81 : fnOk Try.prog 81 = true := by kernel_rfl
theorem fnok_82 : fnOk Try.prog 82 = true := by kernel_rfl
theorem fnok_85 : fnOk Try.prog 85 = true := by kernel_rfl
theorem fnok_86 : fnOk Try.prog 86 = true := by kernel_rfl
theorem fo_31 : fieldsOk Try.prog 31 = true := by kernel_rfl
theorem le_22 : lenD Try.prog 22 = some true := by kernel_rfl
theorem of_24_0 : offOf Try.prog 24 0 = some 0 := by kernel_rfl
theorem of_24_1 : offOf Try.prog 24 1 = some 1 := by kernel_rfl
theorem of_24_2 : offOf Try.prog 24 2 = some 2 := by kernel_rfl
theorem of_31_0 : offOf Try.prog 31 0 = some 0 := by kernel_rfl
theorem of_31_1 : offOf Try.prog 31 1 = some 1 := by kernel_rfl
theorem pl_31_0 : placeF Try.prog 31 0 = some (0, 1) := by kernel_rfl
theorem pl_31_1 : placeF Try.prog 31 1 = some (1, 1) := by kernel_rfl
theorem sl_22 : slD Try.prog 22 = some (2, 16, 31) := by kernel_rfl
theorem ty_22 : tyD Try.prog 22 = some (false, 1) := by kernel_rfl
theorem ty_24 : tyD Try.prog 24 = some (true, 3) := by kernel_rfl
theorem ty_3 : tyD Try.prog 3 = some (false, 1) := by kernel_rfl
theorem ty_31 : tyD Try.prog 31 = some (true, 2) := by kernel_rfl
theorem zc_31 : zeroC Try.prog 31 = some [.iv (.g (.int .i64 0)), .iv (.g (.int .i64 0))] := by kernel_rfl

def lastW (s st : Int) (n : Nat) : Int := IntKind.i64.wrap (s + IntKind.i64.wrap (IntKind.i64.wrap ((n : Int) - 1) * st))
def fewB (st : Int) (n : Nat) : Bool := decide (n ≤ 12) && decide (st ≤ 60)
def spanF (lo hi : Nat → Int) : Nat → Nat → IV
  | i, 0 => .g (.int .i64 (lo i))
  | i, _ + 1 => .g (.int .i64 (hi i))
theorem spanF0 (lo hi : Nat → Int) (i : Nat) : spanF lo hi i 0 = .g (.int .i64 (lo i)) := rfl
theorem spanF1 (lo hi : Nat → Int) (i : Nat) : spanF lo hi i 1 = .g (.int .i64 (hi i)) := rfl
abbrev tideP (s st : Int) (n : Nat) (lo hi : Nat → Int) : PT := .agg [.g (.int .i64 s), .g (.int .i64 st), .lst 2 n (spanF lo hi)]
theorem lastW_eq {s st : Int} {n : Nat} (s0 : 0 ≤ s) (s1 : s ≤ 10000000) (h1 : 1 ≤ n) (h2 : n ≤ 200) (h3 : 1 ≤ st) (h4 : st ≤ 1000) : lastW s st n = s + ((n : Int) - 1) * st := by
  obtain ⟨a, b⟩ := prod_bd h1 h2 h3 h4
  unfold lastW
  rw [seaWrap (n := (n : Int) - 1) (by omega) (by omega), seaWrap (n := ((n : Int) - 1) * st) (by omega) (by omega), seaWrap (by omega) (by omega)]

set_option maxRecDepth 100000 in
set_option maxHeartbeats 4000000 in
theorem isTime_p (t : Int) : CallsP Try.prog 49 [.one (.g (.int .i64 (t)))] (.t (.one (.g (.bool (tm t))))) := by
  refine CallsP_of Try.func49 rfl (by rw [Try.ntmps49]; simp) ?_
  simp only [Try.ntmps49, List.map_cons, List.map_nil, PT.tv, argEnv, Nat.zero_add, Nat.reduceAdd]
  repeat' (first
    | (with_reducible refine AW_seq_k fun K hK => ?_)
    | ((first | (with_reducible refine And.intro ?_ ?_) | (with_reducible refine Need.mk ?_)); focus (first | exact True.intro | (with_reducible assumption) | omega | (refine ⟨?_, ?_⟩ <;> omega) | (intro _; first | exact True.intro | (with_reducible assumption) | omega) | (intros; (repeat' (first | exact True.intro | omega | (with_reducible assumption) | (with_reducible refine And.intro ?_ ?_))); done) | (simp (disch := omega) only [Bool.and_eq_true, Bool.or_eq_true, decide_eq_true_eq, bne_iff_ne, ne_eq] at *; first | done | omega | (intros; omega)) | (simp; done) | (simp; omega) | (simp +contextual; done) | (intro h; rw [h]; rfl) | (intros; simp_all; done)))
    | (with_reducible refine AW_skip ?_)
    | (with_reducible refine AW_exit ?_)
    | (with_reducible refine AW_ret ?_)
    | (with_reducible refine retK_n ?_)
    | (with_reducible refine retK_n' ?_)
    | (with_reducible refine retH_n rfl rfl rfl ?_)
    | (with_reducible refine retH_n' rfl rfl rfl ?_)
    | (with_reducible refine AW_condI ?_)
    | (with_reducible refine AW_block ?_)
    | ((with_reducible refine condN_t ?_ ?_) <;> (intro hc; (try simp only [Bool.and_eq_true, Bool.or_eq_true, Bool.not_eq_true', Bool.and_eq_false_iff, Bool.or_eq_false_iff, decide_eq_true_eq, decide_eq_false_iff_not, bne_iff_ne, beq_iff_eq, reduceCtorEq, bne_eq_false_iff_eq, beq_eq_false_iff_ne, Bool.not_eq_false', Int.not_le, Int.not_lt, Bool.not_not] at hc); (try (exfalso; first | contradiction | omega))))
    | (with_reducible refine AW_regionP 0 [0] ?_)
    | (with_reducible refine AW_regionP 1 [0] ?_)
    | ((fail_if_success (with_reducible show AW _ _ _ _)); simp (maxSteps := 2000000) only [go_sem, reduceIte, reduceCtorEq, Nat.reduceAdd, Nat.reduceLT, Nat.reduceLeDiff, Nat.reduceEqDiff, Nat.reduceMul, Nat.reduceSub, Nat.reduceBEq, Try.f49, tm])
    | ((with_reducible refine hK _ ?_); clear hK K))
  all_goals (first | (try refine Bool.eq_iff_iff.2 ?_); (simp only [Bool.and_eq_true, Bool.or_eq_true, Bool.not_eq_true', decide_eq_true_eq, decide_eq_false_iff_not, bne_iff_ne, beq_iff_eq, ne_eq, ge_iff_le, gt_iff_lt, cond_eq_ite, iff_self, eq_self]; first | done | omega) | skip)

set_option maxRecDepth 100000 in
set_option maxHeartbeats 4000000 in
theorem rTime_p (t : Int) : CallsP Try.prog 50 [.one (.g (.int .i64 (t)))] (.t (.one (.g (.bool (tm t))))) := by
  refine CallsP_of Try.func50 rfl (by rw [Try.ntmps50]; simp) ?_
  simp only [Try.ntmps50, List.map_cons, List.map_nil, PT.tv, argEnv, Nat.zero_add, Nat.reduceAdd]
  repeat' (first
    | (with_reducible refine AW_seq_k fun K hK => ?_)
    | ((first | (with_reducible refine And.intro ?_ ?_) | (with_reducible refine Need.mk ?_)); focus (first | exact True.intro | (with_reducible assumption) | omega | (refine ⟨?_, ?_⟩ <;> omega) | (intro _; first | exact True.intro | (with_reducible assumption) | omega) | (intros; (repeat' (first | exact True.intro | omega | (with_reducible assumption) | (with_reducible refine And.intro ?_ ?_))); done) | (simp (disch := omega) only [Bool.and_eq_true, Bool.or_eq_true, decide_eq_true_eq, bne_iff_ne, ne_eq] at *; first | done | omega | (intros; omega)) | (simp; done) | (simp; omega) | (simp +contextual; done) | (intro h; rw [h]; rfl) | (intros; simp_all; done)))
    | (with_reducible refine AW_skip ?_)
    | (with_reducible refine AW_exit ?_)
    | (with_reducible refine AW_ret ?_)
    | (with_reducible refine retK_n ?_)
    | (with_reducible refine retK_n' ?_)
    | (with_reducible refine retH_n rfl rfl rfl ?_)
    | (with_reducible refine retH_n' rfl rfl rfl ?_)
    | (with_reducible refine AW_condI ?_)
    | (with_reducible refine AW_block ?_)
    | ((with_reducible refine condN_t ?_ ?_) <;> (intro hc; (try simp only [Bool.and_eq_true, Bool.or_eq_true, Bool.not_eq_true', Bool.and_eq_false_iff, Bool.or_eq_false_iff, decide_eq_true_eq, decide_eq_false_iff_not, bne_iff_ne, beq_iff_eq, reduceCtorEq, bne_eq_false_iff_eq, beq_eq_false_iff_ne, Bool.not_eq_false', Int.not_le, Int.not_lt, Bool.not_not] at hc); (try (exfalso; first | contradiction | omega))))
    | (with_reducible refine AW_regionP 0 [0] ?_)
    | (with_reducible refine AW_regionP 1 [0] ?_)
    | ((fail_if_success (with_reducible show AW _ _ _ _)); simp (maxSteps := 2000000) only [go_sem, reduceIte, reduceCtorEq, Nat.reduceAdd, Nat.reduceLT, Nat.reduceLeDiff, Nat.reduceEqDiff, Nat.reduceMul, Nat.reduceSub, Nat.reduceBEq, Try.f50, tm])
    | ((with_reducible refine hK _ ?_); clear hK K))
  all_goals (first | (try refine Bool.eq_iff_iff.2 ?_); (simp only [Bool.and_eq_true, Bool.or_eq_true, Bool.not_eq_true', decide_eq_true_eq, decide_eq_false_iff_not, bne_iff_ne, beq_iff_eq, ne_eq, ge_iff_le, gt_iff_lt, cond_eq_ite, iff_self, eq_self]; first | done | omega) | skip)

set_option maxRecDepth 100000 in
set_option maxHeartbeats 4000000 in
theorem sValid_p (a b : Int) : CallsP Try.prog 64 [.agg [.g (.int .i64 (a)), .g (.int .i64 (b))]] (.t (.one (.g (.bool (sv a b))))) := by
  refine CallsP_of Try.func64 rfl (by rw [Try.ntmps64]; simp) ?_
  simp only [Try.ntmps64, List.map_cons, List.map_nil, PT.tv, argEnv, Nat.zero_add, Nat.reduceAdd]
  repeat' (first
    | (with_reducible refine AW_seq_k fun K hK => ?_)
    | ((first | (with_reducible refine And.intro ?_ ?_) | (with_reducible refine Need.mk ?_)); focus (first | exact True.intro | (with_reducible assumption) | omega | (refine ⟨?_, ?_⟩ <;> omega) | (intro _; first | exact True.intro | (with_reducible assumption) | omega) | (intros; (repeat' (first | exact True.intro | omega | (with_reducible assumption) | (with_reducible refine And.intro ?_ ?_))); done) | (simp (disch := omega) only [Bool.and_eq_true, Bool.or_eq_true, decide_eq_true_eq, bne_iff_ne, ne_eq] at *; first | done | omega | (intros; omega)) | (simp; done) | (simp; omega) | (simp +contextual; done) | (intro h; rw [h]; rfl) | (intros; simp_all; done)))
    | (with_reducible refine AW_skip ?_)
    | (with_reducible refine AW_exit ?_)
    | (with_reducible refine AW_ret ?_)
    | (with_reducible refine retK_n ?_)
    | (with_reducible refine retK_n' ?_)
    | (with_reducible refine retH_n rfl rfl rfl ?_)
    | (with_reducible refine retH_n' rfl rfl rfl ?_)
    | (with_reducible refine AW_condI ?_)
    | (with_reducible refine AW_block ?_)
    | ((with_reducible refine condN_t ?_ ?_) <;> (intro hc; (try simp only [Bool.and_eq_true, Bool.or_eq_true, Bool.not_eq_true', Bool.and_eq_false_iff, Bool.or_eq_false_iff, decide_eq_true_eq, decide_eq_false_iff_not, bne_iff_ne, beq_iff_eq, reduceCtorEq, bne_eq_false_iff_eq, beq_eq_false_iff_ne, Bool.not_eq_false', Int.not_le, Int.not_lt, Bool.not_not] at hc); (try (exfalso; first | contradiction | omega))))
    | (with_reducible refine AW_regionP 0 [0] ?_)
    | (with_reducible refine AW_regionP 1 [1] ?_)
    | ((fail_if_success (with_reducible show AW _ _ _ _)); simp (maxSteps := 2000000) only [go_sem, reduceIte, reduceCtorEq, Nat.reduceAdd, Nat.reduceLT, Nat.reduceLeDiff, Nat.reduceEqDiff, Nat.reduceMul, Nat.reduceSub, Nat.reduceBEq, Try.f64, of_31_0, ty_3, of_31_1, sv])
    | ((with_reducible refine hK _ ?_); clear hK K))
  all_goals (first | (try refine Bool.eq_iff_iff.2 ?_); (simp only [Bool.and_eq_true, Bool.or_eq_true, Bool.not_eq_true', decide_eq_true_eq, decide_eq_false_iff_not, bne_iff_ne, beq_iff_eq, ne_eq, ge_iff_le, gt_iff_lt, cond_eq_ite, iff_self, eq_self]; first | done | omega) | skip)

set_option maxRecDepth 100000 in
set_option maxHeartbeats 4000000 in
theorem rsValid_p (a b : Int) : CallsP Try.prog 66 [.agg [.g (.int .i64 (a)), .g (.int .i64 (b))]] (.t (.one (.g (.bool (sv a b))))) := by
  refine CallsP_of Try.func66 rfl (by rw [Try.ntmps66]; simp) ?_
  simp only [Try.ntmps66, List.map_cons, List.map_nil, PT.tv, argEnv, Nat.zero_add, Nat.reduceAdd]
  repeat' (first
    | (with_reducible refine AW_seq_k fun K hK => ?_)
    | ((first | (with_reducible refine And.intro ?_ ?_) | (with_reducible refine Need.mk ?_)); focus (first | exact True.intro | (with_reducible assumption) | omega | (refine ⟨?_, ?_⟩ <;> omega) | (intro _; first | exact True.intro | (with_reducible assumption) | omega) | (intros; (repeat' (first | exact True.intro | omega | (with_reducible assumption) | (with_reducible refine And.intro ?_ ?_))); done) | (simp (disch := omega) only [Bool.and_eq_true, Bool.or_eq_true, decide_eq_true_eq, bne_iff_ne, ne_eq] at *; first | done | omega | (intros; omega)) | (simp; done) | (simp; omega) | (simp +contextual; done) | (intro h; rw [h]; rfl) | (intros; simp_all; done)))
    | (with_reducible refine AW_skip ?_)
    | (with_reducible refine AW_exit ?_)
    | (with_reducible refine AW_ret ?_)
    | (with_reducible refine retK_n ?_)
    | (with_reducible refine retK_n' ?_)
    | (with_reducible refine retH_n rfl rfl rfl ?_)
    | (with_reducible refine retH_n' rfl rfl rfl ?_)
    | (with_reducible refine AW_condI ?_)
    | (with_reducible refine AW_block ?_)
    | ((with_reducible refine condN_t ?_ ?_) <;> (intro hc; (try simp only [Bool.and_eq_true, Bool.or_eq_true, Bool.not_eq_true', Bool.and_eq_false_iff, Bool.or_eq_false_iff, decide_eq_true_eq, decide_eq_false_iff_not, bne_iff_ne, beq_iff_eq, reduceCtorEq, bne_eq_false_iff_eq, beq_eq_false_iff_ne, Bool.not_eq_false', Int.not_le, Int.not_lt, Bool.not_not] at hc); (try (exfalso; first | contradiction | omega))))
    | (with_reducible refine AW_regionP 0 [0] ?_)
    | (with_reducible refine AW_regionP 1 [1] ?_)
    | ((fail_if_success (with_reducible show AW _ _ _ _)); simp (maxSteps := 2000000) only [go_sem, reduceIte, reduceCtorEq, Nat.reduceAdd, Nat.reduceLT, Nat.reduceLeDiff, Nat.reduceEqDiff, Nat.reduceMul, Nat.reduceSub, Nat.reduceBEq, Try.f66, of_31_0, ty_3, of_31_1, sv])
    | ((with_reducible refine hK _ ?_); clear hK K))
  all_goals (first | (try refine Bool.eq_iff_iff.2 ?_); (simp only [Bool.and_eq_true, Bool.or_eq_true, Bool.not_eq_true', decide_eq_true_eq, decide_eq_false_iff_not, bne_iff_ne, beq_iff_eq, ne_eq, ge_iff_le, gt_iff_lt, cond_eq_ite, iff_self, eq_self]; first | done | omega) | skip)

set_option maxRecDepth 100000 in
set_option maxHeartbeats 4000000 in
theorem isHeight_p (a b : Int) : CallsP Try.prog 53 [.agg [.g (.int .i64 (a)), .g (.int .i64 (b))]] (.t (.one (.g (.bool (hv a b))))) := by
  refine CallsP_of Try.func53 rfl (by rw [Try.ntmps53]; simp) ?_
  simp only [Try.ntmps53, List.map_cons, List.map_nil, PT.tv, argEnv, Nat.zero_add, Nat.reduceAdd]
  repeat' (first
    | (with_reducible refine AW_seq_k fun K hK => ?_)
    | ((first | (with_reducible refine And.intro ?_ ?_) | (with_reducible refine Need.mk ?_)); focus (first | exact True.intro | (with_reducible assumption) | omega | (refine ⟨?_, ?_⟩ <;> omega) | (intro _; first | exact True.intro | (with_reducible assumption) | omega) | (intros; (repeat' (first | exact True.intro | omega | (with_reducible assumption) | (with_reducible refine And.intro ?_ ?_))); done) | (simp (disch := omega) only [Bool.and_eq_true, Bool.or_eq_true, decide_eq_true_eq, bne_iff_ne, ne_eq] at *; first | done | omega | (intros; omega)) | (simp; done) | (simp; omega) | (simp +contextual; done) | (intro h; rw [h]; rfl) | (intros; simp_all; done)))
    | (with_reducible refine AW_skip ?_)
    | (with_reducible refine AW_exit ?_)
    | (with_reducible refine AW_ret ?_)
    | (with_reducible refine retK_n ?_)
    | (with_reducible refine retK_n' ?_)
    | (with_reducible refine retH_n rfl rfl rfl ?_)
    | (with_reducible refine retH_n' rfl rfl rfl ?_)
    | (with_reducible refine AW_condI ?_)
    | (with_reducible refine AW_block ?_)
    | ((with_reducible refine condN_t ?_ ?_) <;> (intro hc; (try simp only [Bool.and_eq_true, Bool.or_eq_true, Bool.not_eq_true', Bool.and_eq_false_iff, Bool.or_eq_false_iff, decide_eq_true_eq, decide_eq_false_iff_not, bne_iff_ne, beq_iff_eq, reduceCtorEq, bne_eq_false_iff_eq, beq_eq_false_iff_ne, Bool.not_eq_false', Int.not_le, Int.not_lt, Bool.not_not] at hc); (try (exfalso; first | contradiction | omega))))
    | (with_reducible refine AW_regionP 0 [0] ?_)
    | (with_reducible refine AW_regionP 1 [1] ?_)
    | (refine callN_q (k := 64) fnok_64 (sValid_p _ _) ?_ ?_)
    | ((fail_if_success (with_reducible show AW _ _ _ _)); simp (maxSteps := 2000000) only [go_sem, reduceIte, reduceCtorEq, Nat.reduceAdd, Nat.reduceLT, Nat.reduceLeDiff, Nat.reduceEqDiff, Nat.reduceMul, Nat.reduceSub, Nat.reduceBEq, Try.f53, ty_31, fnok_64, of_31_0, ty_3, of_31_1, hv])
    | ((with_reducible refine hK _ ?_); clear hK K))
  all_goals (unfold sv; (try refine Bool.eq_iff_iff.2 ?_); (simp only [Bool.and_eq_true, Bool.or_eq_true, Bool.not_eq_true', decide_eq_true_eq, decide_eq_false_iff_not, bne_iff_ne, beq_iff_eq, ne_eq, ge_iff_le, gt_iff_lt, cond_eq_ite, iff_self, eq_self]; first | done | omega))

set_option maxRecDepth 100000 in
set_option maxHeartbeats 4000000 in
theorem rHeight0_p (a b : Int) : CallsP Try.prog 51 [.agg [.g (.int .i64 (a)), .g (.int .i64 (b))]] (.t (.one (.g (.bool (hv a b))))) := by
  refine CallsP_of Try.func51 rfl (by rw [Try.ntmps51]; simp) ?_
  simp only [Try.ntmps51, List.map_cons, List.map_nil, PT.tv, argEnv, Nat.zero_add, Nat.reduceAdd]
  repeat' (first
    | (with_reducible refine AW_seq_k fun K hK => ?_)
    | ((first | (with_reducible refine And.intro ?_ ?_) | (with_reducible refine Need.mk ?_)); focus (first | exact True.intro | (with_reducible assumption) | omega | (refine ⟨?_, ?_⟩ <;> omega) | (intro _; first | exact True.intro | (with_reducible assumption) | omega) | (intros; (repeat' (first | exact True.intro | omega | (with_reducible assumption) | (with_reducible refine And.intro ?_ ?_))); done) | (simp (disch := omega) only [Bool.and_eq_true, Bool.or_eq_true, decide_eq_true_eq, bne_iff_ne, ne_eq] at *; first | done | omega | (intros; omega)) | (simp; done) | (simp; omega) | (simp +contextual; done) | (intro h; rw [h]; rfl) | (intros; simp_all; done)))
    | (with_reducible refine AW_skip ?_)
    | (with_reducible refine AW_exit ?_)
    | (with_reducible refine AW_ret ?_)
    | (with_reducible refine retK_n ?_)
    | (with_reducible refine retK_n' ?_)
    | (with_reducible refine retH_n rfl rfl rfl ?_)
    | (with_reducible refine retH_n' rfl rfl rfl ?_)
    | (with_reducible refine AW_condI ?_)
    | (with_reducible refine AW_block ?_)
    | ((with_reducible refine condN_t ?_ ?_) <;> (intro hc; (try simp only [Bool.and_eq_true, Bool.or_eq_true, Bool.not_eq_true', Bool.and_eq_false_iff, Bool.or_eq_false_iff, decide_eq_true_eq, decide_eq_false_iff_not, bne_iff_ne, beq_iff_eq, reduceCtorEq, bne_eq_false_iff_eq, beq_eq_false_iff_ne, Bool.not_eq_false', Int.not_le, Int.not_lt, Bool.not_not] at hc); (try (exfalso; first | contradiction | omega))))
    | (with_reducible refine AW_regionP 0 [0] ?_)
    | (with_reducible refine AW_regionP 1 [1] ?_)
    | (with_reducible refine AW_regionP 2 [1, 3] ?_)
    | (refine callN_q (k := 66) fnok_66 (rsValid_p _ _) ?_ ?_)
    | ((fail_if_success (with_reducible show AW _ _ _ _)); simp (maxSteps := 2000000) only [go_sem, reduceIte, reduceCtorEq, Nat.reduceAdd, Nat.reduceLT, Nat.reduceLeDiff, Nat.reduceEqDiff, Nat.reduceMul, Nat.reduceSub, Nat.reduceBEq, Try.f51, ty_31, fnok_66, of_31_0, ty_3, of_31_1, hv])
    | ((with_reducible refine hK _ ?_); clear hK K))
  all_goals (unfold sv; (try refine Bool.eq_iff_iff.2 ?_); (simp only [Bool.and_eq_true, Bool.or_eq_true, Bool.not_eq_true', decide_eq_true_eq, decide_eq_false_iff_not, bne_iff_ne, beq_iff_eq, ne_eq, ge_iff_le, gt_iff_lt, cond_eq_ite, iff_self, eq_self]; first | done | omega))

set_option maxRecDepth 100000 in
set_option maxHeartbeats 4000000 in
theorem last_p (s st : Int) (n : Nat) (lo hi : Nat → Int) : CallsP Try.prog 52 [tideP s st n lo hi] (.t (.one (.g (.int .i64 (lastW s st n))))) := by
  refine CallsP_of Try.func52 rfl (by rw [Try.ntmps52]; simp) ?_
  simp only [Try.ntmps52, List.map_cons, List.map_nil, PT.tv, argEnv, Nat.zero_add, Nat.reduceAdd]
  repeat' (first
    | (with_reducible refine AW_seq_k fun K hK => ?_)
    | ((first | (with_reducible refine And.intro ?_ ?_) | (with_reducible refine Need.mk ?_)); focus (first | exact True.intro | (with_reducible assumption) | omega | (refine ⟨?_, ?_⟩ <;> omega) | (intro _; first | exact True.intro | (with_reducible assumption) | omega) | (intros; (repeat' (first | exact True.intro | omega | (with_reducible assumption) | (with_reducible refine And.intro ?_ ?_))); done) | (simp (disch := omega) only [Bool.and_eq_true, Bool.or_eq_true, decide_eq_true_eq, bne_iff_ne, ne_eq] at *; first | done | omega | (intros; omega)) | (simp; done) | (simp; omega) | (simp +contextual; done) | (intro h; rw [h]; rfl) | (intros; simp_all; done)))
    | (with_reducible refine AW_skip ?_)
    | (with_reducible refine AW_exit ?_)
    | (with_reducible refine AW_ret ?_)
    | (with_reducible refine retK_n ?_)
    | (with_reducible refine retK_n' ?_)
    | (with_reducible refine retH_n rfl rfl rfl ?_)
    | (with_reducible refine retH_n' rfl rfl rfl ?_)
    | (with_reducible refine AW_condI ?_)
    | (with_reducible refine AW_block ?_)
    | ((with_reducible refine condN_t ?_ ?_) <;> (intro hc; (try simp only [Bool.and_eq_true, Bool.or_eq_true, Bool.not_eq_true', Bool.and_eq_false_iff, Bool.or_eq_false_iff, decide_eq_true_eq, decide_eq_false_iff_not, bne_iff_ne, beq_iff_eq, reduceCtorEq, bne_eq_false_iff_eq, beq_eq_false_iff_ne, Bool.not_eq_false', Int.not_le, Int.not_lt, Bool.not_not] at hc); (try (exfalso; first | contradiction | omega))))
    | (with_reducible refine AW_regionP 0 [0] ?_)
    | (with_reducible refine AW_regionP 1 [1] ?_)
    | ((fail_if_success (with_reducible show AW _ _ _ _)); simp (maxSteps := 2000000) only [go_sem, reduceIte, reduceCtorEq, Nat.reduceAdd, Nat.reduceLT, Nat.reduceLeDiff, Nat.reduceEqDiff, Nat.reduceMul, Nat.reduceSub, Nat.reduceBEq, Try.f52, of_24_0, ty_3, of_24_2, ty_22, le_22, of_24_1, lastW])
    | ((fail_if_success (with_reducible show AW _ _ _ _)); simp (disch := omega) only [seaWrap, seaDiv, seaMod])
    | ((with_reducible refine hK _ ?_); clear hK K))

set_option maxRecDepth 100000 in
set_option maxHeartbeats 4000000 in
theorem rlast_p (s st : Int) (n : Nat) (lo hi : Nat → Int) : CallsP Try.prog 55 [tideP s st n lo hi] (.t (.one (.g (.int .i64 (lastW s st n))))) := by
  refine CallsP_of Try.func55 rfl (by rw [Try.ntmps55]; simp) ?_
  simp only [Try.ntmps55, List.map_cons, List.map_nil, PT.tv, argEnv, Nat.zero_add, Nat.reduceAdd]
  repeat' (first
    | (with_reducible refine AW_seq_k fun K hK => ?_)
    | ((first | (with_reducible refine And.intro ?_ ?_) | (with_reducible refine Need.mk ?_)); focus (first | exact True.intro | (with_reducible assumption) | omega | (refine ⟨?_, ?_⟩ <;> omega) | (intro _; first | exact True.intro | (with_reducible assumption) | omega) | (intros; (repeat' (first | exact True.intro | omega | (with_reducible assumption) | (with_reducible refine And.intro ?_ ?_))); done) | (simp (disch := omega) only [Bool.and_eq_true, Bool.or_eq_true, decide_eq_true_eq, bne_iff_ne, ne_eq] at *; first | done | omega | (intros; omega)) | (simp; done) | (simp; omega) | (simp +contextual; done) | (intro h; rw [h]; rfl) | (intros; simp_all; done)))
    | (with_reducible refine AW_skip ?_)
    | (with_reducible refine AW_exit ?_)
    | (with_reducible refine AW_ret ?_)
    | (with_reducible refine retK_n ?_)
    | (with_reducible refine retK_n' ?_)
    | (with_reducible refine retH_n rfl rfl rfl ?_)
    | (with_reducible refine retH_n' rfl rfl rfl ?_)
    | (with_reducible refine AW_condI ?_)
    | (with_reducible refine AW_block ?_)
    | ((with_reducible refine condN_t ?_ ?_) <;> (intro hc; (try simp only [Bool.and_eq_true, Bool.or_eq_true, Bool.not_eq_true', Bool.and_eq_false_iff, Bool.or_eq_false_iff, decide_eq_true_eq, decide_eq_false_iff_not, bne_iff_ne, beq_iff_eq, reduceCtorEq, bne_eq_false_iff_eq, beq_eq_false_iff_ne, Bool.not_eq_false', Int.not_le, Int.not_lt, Bool.not_not] at hc); (try (exfalso; first | contradiction | omega))))
    | (with_reducible refine AW_regionP 0 [0] ?_)
    | (with_reducible refine AW_regionP 1 [1] ?_)
    | ((fail_if_success (with_reducible show AW _ _ _ _)); simp (maxSteps := 2000000) only [go_sem, reduceIte, reduceCtorEq, Nat.reduceAdd, Nat.reduceLT, Nat.reduceLeDiff, Nat.reduceEqDiff, Nat.reduceMul, Nat.reduceSub, Nat.reduceBEq, Try.f55, of_24_0, ty_3, of_24_2, ty_22, le_22, of_24_1, lastW])
    | ((fail_if_success (with_reducible show AW _ _ _ _)); simp (disch := omega) only [seaWrap, seaDiv, seaMod])
    | ((with_reducible refine hK _ ?_); clear hK K))

set_option maxRecDepth 100000 in
set_option maxHeartbeats 4000000 in
theorem few_p (s st : Int) (n : Nat) (lo hi : Nat → Int) : CallsP Try.prog 14 [tideP s st n lo hi] (.t (.one (.g (.bool (fewB st n))))) := by
  refine CallsP_of Try.func14 rfl (by rw [Try.ntmps14]; simp) ?_
  simp only [Try.ntmps14, List.map_cons, List.map_nil, PT.tv, argEnv, Nat.zero_add, Nat.reduceAdd]
  repeat' (first
    | (with_reducible refine AW_seq_k fun K hK => ?_)
    | ((first | (with_reducible refine And.intro ?_ ?_) | (with_reducible refine Need.mk ?_)); focus (first | exact True.intro | (with_reducible assumption) | omega | (refine ⟨?_, ?_⟩ <;> omega) | (intro _; first | exact True.intro | (with_reducible assumption) | omega) | (intros; (repeat' (first | exact True.intro | omega | (with_reducible assumption) | (with_reducible refine And.intro ?_ ?_))); done) | (simp (disch := omega) only [Bool.and_eq_true, Bool.or_eq_true, decide_eq_true_eq, bne_iff_ne, ne_eq] at *; first | done | omega | (intros; omega)) | (simp; done) | (simp; omega) | (simp +contextual; done) | (intro h; rw [h]; rfl) | (intros; simp_all; done)))
    | (with_reducible refine AW_skip ?_)
    | (with_reducible refine AW_exit ?_)
    | (with_reducible refine AW_ret ?_)
    | (with_reducible refine retK_n ?_)
    | (with_reducible refine retK_n' ?_)
    | (with_reducible refine retH_n rfl rfl rfl ?_)
    | (with_reducible refine retH_n' rfl rfl rfl ?_)
    | (with_reducible refine AW_condI ?_)
    | (with_reducible refine AW_block ?_)
    | ((with_reducible refine condN_t ?_ ?_) <;> (intro hc; (try simp only [Bool.and_eq_true, Bool.or_eq_true, Bool.not_eq_true', Bool.and_eq_false_iff, Bool.or_eq_false_iff, decide_eq_true_eq, decide_eq_false_iff_not, bne_iff_ne, beq_iff_eq, reduceCtorEq, bne_eq_false_iff_eq, beq_eq_false_iff_ne, Bool.not_eq_false', Int.not_le, Int.not_lt, Bool.not_not] at hc); (try (exfalso; first | contradiction | omega))))
    | (with_reducible refine AW_regionP 0 [0] ?_)
    | (with_reducible refine AW_regionP 1 [1] ?_)
    | ((fail_if_success (with_reducible show AW _ _ _ _)); simp (maxSteps := 2000000) only [go_sem, reduceIte, reduceCtorEq, Nat.reduceAdd, Nat.reduceLT, Nat.reduceLeDiff, Nat.reduceEqDiff, Nat.reduceMul, Nat.reduceSub, Nat.reduceBEq, Try.f14, of_24_2, ty_22, le_22, of_24_1, ty_3, fewB])
    | ((with_reducible refine hK _ ?_); clear hK K))
  all_goals (first | (try refine Bool.eq_iff_iff.2 ?_); (simp only [Bool.and_eq_true, Bool.or_eq_true, Bool.not_eq_true', decide_eq_true_eq, decide_eq_false_iff_not, bne_iff_ne, beq_iff_eq, ne_eq, ge_iff_le, gt_iff_lt, cond_eq_ite, iff_self, eq_self]; first | done | omega) | skip)

set_option maxRecDepth 100000 in
set_option maxHeartbeats 4000000 in
theorem need_p (t : Int) : CallsP Try.prog 58 [.one (.g (.int .i64 (t)))] (.t (.one (.g (.bool (nd t))))) := by
  refine CallsP_of Try.func58 rfl (by rw [Try.ntmps58]; simp) ?_
  simp only [Try.ntmps58, List.map_cons, List.map_nil, PT.tv, argEnv, Nat.zero_add, Nat.reduceAdd]
  repeat' (first
    | (with_reducible refine AW_seq_k fun K hK => ?_)
    | ((first | (with_reducible refine And.intro ?_ ?_) | (with_reducible refine Need.mk ?_)); focus (first | exact True.intro | (with_reducible assumption) | omega | (refine ⟨?_, ?_⟩ <;> omega) | (intro _; first | exact True.intro | (with_reducible assumption) | omega) | (intros; (repeat' (first | exact True.intro | omega | (with_reducible assumption) | (with_reducible refine And.intro ?_ ?_))); done) | (simp (disch := omega) only [Bool.and_eq_true, Bool.or_eq_true, decide_eq_true_eq, bne_iff_ne, ne_eq] at *; first | done | omega | (intros; omega)) | (simp; done) | (simp; omega) | (simp +contextual; done) | (intro h; rw [h]; rfl) | (intros; simp_all; done)))
    | (with_reducible refine AW_skip ?_)
    | (with_reducible refine AW_exit ?_)
    | (with_reducible refine AW_ret ?_)
    | (with_reducible refine retK_n ?_)
    | (with_reducible refine retK_n' ?_)
    | (with_reducible refine retH_n rfl rfl rfl ?_)
    | (with_reducible refine retH_n' rfl rfl rfl ?_)
    | (with_reducible refine AW_condI ?_)
    | (with_reducible refine AW_block ?_)
    | ((with_reducible refine condN_t ?_ ?_) <;> (intro hc; (try simp only [Bool.and_eq_true, Bool.or_eq_true, Bool.not_eq_true', Bool.and_eq_false_iff, Bool.or_eq_false_iff, decide_eq_true_eq, decide_eq_false_iff_not, bne_iff_ne, beq_iff_eq, reduceCtorEq, bne_eq_false_iff_eq, beq_eq_false_iff_ne, Bool.not_eq_false', Int.not_le, Int.not_lt, Bool.not_not] at hc); (try (exfalso; first | contradiction | omega))))
    | (with_reducible refine AW_regionP 0 [0] ?_)
    | (with_reducible refine AW_regionP 1 [0] ?_)
    | ((fail_if_success (with_reducible show AW _ _ _ _)); simp (maxSteps := 2000000) only [go_sem, reduceIte, reduceCtorEq, Nat.reduceAdd, Nat.reduceLT, Nat.reduceLeDiff, Nat.reduceEqDiff, Nat.reduceMul, Nat.reduceSub, Nat.reduceBEq, Try.f58, nd])
    | ((with_reducible refine hK _ ?_); clear hK K))
  all_goals (first | (try refine Bool.eq_iff_iff.2 ?_); (simp only [Bool.and_eq_true, Bool.or_eq_true, Bool.not_eq_true', decide_eq_true_eq, decide_eq_false_iff_not, bne_iff_ne, beq_iff_eq, ne_eq, ge_iff_le, gt_iff_lt, cond_eq_ite, iff_self, eq_self]; first | done | omega) | skip)

theorem tval_f {s st : Int} {n : Nat} {lo hi : Nat → Int} (hc : ((((tm s = false ∨ st < 1) ∨ st > 1000) ∨ (n : Int) = 0) ∨ (n : Int) > 200) ∨ tm (lastW s st n) = false) : tval s st n lo hi = false := by
  unfold tval
  rw [Bool.and_eq_false_iff]
  refine Or.inl (decide_eq_false fun h => ?_)
  have e := lastW_eq h.1 h.2.1 h.2.2.2.2.1 h.2.2.2.2.2.1 h.2.2.1 h.2.2.2.1
  have e1 : tm s = true := decide_eq_true ⟨h.1, h.2.1⟩
  have e2 := prod_bd h.2.2.2.2.1 h.2.2.2.2.2.1 h.2.2.1 h.2.2.2.1
  have e3 : tm (lastW s st n) = true := by rw [e]; exact decide_eq_true ⟨by omega, h.2.2.2.2.2.2⟩
  rw [e1, e3] at hc
  simp at hc
  omega
theorem tval_k {s st : Int} {n k : Nat} {lo hi : Nat → Int} (h : (k : Int) < n) (hc : hv (lo k) (hi k) = false) : tval s st n lo hi = false := by
  unfold tval
  rw [Bool.and_eq_false_iff]
  refine Or.inr (decide_eq_false fun h' => ?_)
  rw [h' k (by omega)] at hc; cases hc
theorem tval_t {s st : Int} {n k : Nat} {lo hi : Nat → Int} (h : ((((tm s = true ∧ 1 ≤ st) ∧ st ≤ 1000) ∧ (n : Int) ≠ 0) ∧ (n : Int) ≤ 200) ∧ tm (lastW s st n) = true) (hk : (n : Int) ≤ k) (hc : ∀ i, i < k → hv (lo i) (hi i) = true) : tval s st n lo hi = true := by
  obtain ⟨⟨⟨⟨⟨h1, h2⟩, h3⟩, h4⟩, h5⟩, h6⟩ := h
  have h1' := tm_bd h1
  have e := lastW_eq h1'.1 h1'.2 (by omega : 1 ≤ n) (by omega) h2 h3
  rw [e] at h6
  have h6' := tm_bd h6
  unfold tval
  rw [Bool.and_eq_true]
  exact ⟨decide_eq_true ⟨h1'.1, h1'.2, h2, h3, by omega, by omega, h6'.2⟩, decide_eq_true fun i hi => hc i (by omega)⟩

set_option maxRecDepth 100000 in
set_option maxHeartbeats 4000000 in
theorem valid_p (s st : Int) (n : Nat) (lo hi : Nat → Int) : CallsP Try.prog 18 [tideP s st n lo hi] (.t (.one (.g (.bool (tval s st n lo hi))))) := by
  refine CallsP_of Try.func18 rfl (by rw [Try.ntmps18]; simp) ?_
  simp only [Try.ntmps18, List.map_cons, List.map_nil, PT.tv, argEnv, Nat.zero_add, Nat.reduceAdd]
  repeat' (first
    | (with_reducible refine AW_seq_k fun K hK => ?_)
    | ((first | (with_reducible refine And.intro ?_ ?_) | (with_reducible refine Need.mk ?_)); focus (first | exact True.intro | (with_reducible assumption) | omega | (refine ⟨?_, ?_⟩ <;> omega) | (intro _; first | exact True.intro | (with_reducible assumption) | omega) | (intros; (repeat' (first | exact True.intro | omega | (with_reducible assumption) | (with_reducible refine And.intro ?_ ?_))); done) | (simp (disch := omega) only [Bool.and_eq_true, Bool.or_eq_true, decide_eq_true_eq, bne_iff_ne, ne_eq] at *; first | done | omega | (intros; omega)) | (simp; done) | (simp; omega) | (simp +contextual; done) | (intro h; rw [h]; rfl) | (intros; simp_all; done)))
    | (with_reducible refine AW_skip ?_)
    | (with_reducible refine AW_exit ?_)
    | (with_reducible refine AW_ret ?_)
    | (with_reducible refine retK_n ?_)
    | (with_reducible refine retK_n' ?_)
    | (with_reducible refine retH_n rfl rfl rfl ?_)
    | (with_reducible refine retH_n' rfl rfl rfl ?_)
    | (with_reducible refine AW_condI ?_)
    | (with_reducible refine AW_block ?_)
    | ((with_reducible refine condN_t ?_ ?_) <;> (intro hc; (try simp only [Bool.and_eq_true, Bool.or_eq_true, Bool.not_eq_true', Bool.and_eq_false_iff, Bool.or_eq_false_iff, decide_eq_true_eq, decide_eq_false_iff_not, bne_iff_ne, beq_iff_eq, reduceCtorEq, bne_eq_false_iff_eq, beq_eq_false_iff_ne, Bool.not_eq_false', Int.not_le, Int.not_lt, Bool.not_not] at hc); (try (exfalso; first | contradiction | omega))))
    | (with_reducible refine AW_regionP 0 [0] ?_)
    | (with_reducible refine AW_regionP 1 [1] ?_)
    | (with_reducible refine AW_regionP 2 [1, 3] ?_)
    | (with_reducible refine AW_regionP 3 [] ?_)
    | (with_reducible refine AW_regionP 4 [1] ?_)
    | (with_reducible refine AW_regionP 5 [38, 39, 40] ?_)
    | (with_reducible refine AW_regionP 6 [38, 39, 40] ?_)
    | (with_reducible refine AW_regionP 7 [5, 38, 39, 40] ?_)
    | (with_reducible refine AW_regionP 8 [] ?_)
    | (with_reducible refine AW_regionP 9 [38, 39, 40] ?_)
    | (with_reducible refine AW_regionP 10 [] ?_)
    | (refine callN_q (k := 49) fnok_49 (isTime_p _) ?_ ?_)
    | (refine callGN_q (k := 49) fnok_49 (fun hg => isTime_p _) ?_ ?_)
    | (refine callGN_q (k := 52) fnok_52 (fun hg => last_p _ _ _ _ _) ?_ ?_)
    | (refine callN_q (k := 53) fnok_53 (isHeight_p _ _) ?_ ?_)
    | ((with_reducible refine AW_loopQ (c := (Code.seq (Code.region 5 _ _) _)) (ι := Nat) [38, 39] (fun k => [(40, iA .i64 (k : Int))]) (fun k => []) (fun k => k ≤ n ∧ (∀ i, i < k → hv (lo i) (hi i) = true)) (fun k => n - k) 0 ?lg5 ?l15 ?l25 ?li5 ?lr5); (case' lg5 => rintro k _); (case' li5 => try (exact ⟨Nat.zero_le _, fun i hi => absurd hi (Nat.not_lt_zero _)⟩)); (case' lr5 => rintro k ⟨h1, h2⟩ KR hR5; skip; simp only [keepE, hupd, hset, lk, if_true, if_false, Nat.reduceEqDiff, reduceIte, List.cons_append, List.nil_append, spanF0, spanF1]))
    | ((with_reducible refine hR5 _ (k + 1) ?_); (try clear hR5 KR))
    | ((with_reducible refine Told.mk ?_); simp only [go_sem, reduceIte, reduceCtorEq, Nat.reduceAdd, Nat.reduceLT, Nat.reduceLeDiff, Nat.reduceEqDiff, Nat.reduceMul, Nat.reduceSub, Nat.reduceBEq, spanF0, spanF1] <;> (first | exact True.intro | (((try simp (disch := omega) only [seaWrap, Int.natCast_add, Int.cast_ofNat_Int, and_true, true_and, and_self]); (repeat' (first | exact True.intro | omega | (with_reducible assumption) | (with_reducible refine And.intro ?_ ?_) | (exact all_succ (by assumption) (by assumption)))); done)) | (refine Stuck.out ?_)))
    | ((fail_if_success (with_reducible show AW _ _ _ _)); simp (maxSteps := 2000000) only [go_sem, reduceIte, reduceCtorEq, Nat.reduceAdd, Nat.reduceLT, Nat.reduceLeDiff, Nat.reduceEqDiff, Nat.reduceMul, Nat.reduceSub, Nat.reduceBEq, Try.f18, of_24_2, ty_22, le_22, of_24_0, ty_3, fnok_49, of_24_1, ty_24, fnok_52, sl_22, ar_22, ty_31, zc_31, fnok_53, spanF0, spanF1])
    | ((fail_if_success (with_reducible show AW _ _ _ _)); simp (disch := omega) only [seaWrap, seaDiv, seaMod])
    | ((with_reducible refine hK _ ?_); clear hK K)
    | (with_reducible apply_assumption -exfalso))
  all_goals (refine Eq.symm ?_; first | exact tval_f (by omega) | exact tval_k ‹_› ‹_› | exact tval_t (by assumption) (by assumption) (by assumption))

set_option maxRecDepth 100000 in
set_option maxHeartbeats 4000000 in
theorem ends_p (a b : Int) : CallsP Try.prog 81 [.one (.g (.int .i64 (a))), .one (.g (.int .i64 (b)))] (.tup [.one (.g (.int .i64 (min a b))), .one (.g (.int .i64 (max a b)))]) := by
  refine CallsP_of Try.func81 rfl (by rw [Try.ntmps81]; simp) ?_
  simp only [Try.ntmps81, List.map_cons, List.map_nil, PT.tv, argEnv, Nat.zero_add, Nat.reduceAdd]
  repeat' (first
    | (with_reducible refine AW_seq_k fun K hK => ?_)
    | ((first | (with_reducible refine And.intro ?_ ?_) | (with_reducible refine Need.mk ?_)); focus (first | exact True.intro | (with_reducible assumption) | omega | (refine ⟨?_, ?_⟩ <;> omega) | (intro _; first | exact True.intro | (with_reducible assumption) | omega) | (intros; (repeat' (first | exact True.intro | omega | (with_reducible assumption) | (with_reducible refine And.intro ?_ ?_))); done) | (simp (disch := omega) only [Bool.and_eq_true, Bool.or_eq_true, decide_eq_true_eq, bne_iff_ne, ne_eq] at *; first | done | omega | (intros; omega)) | (simp; done) | (simp; omega) | (simp +contextual; done) | (intro h; rw [h]; rfl) | (intros; simp_all; done)))
    | (with_reducible refine AW_skip ?_)
    | (with_reducible refine AW_exit ?_)
    | (with_reducible refine AW_ret ?_)
    | (with_reducible refine retK_n ?_)
    | (with_reducible refine retK_n' ?_)
    | (with_reducible refine retH_n rfl rfl rfl ?_)
    | (with_reducible refine retH_n' rfl rfl rfl ?_)
    | (with_reducible refine AW_condI ?_)
    | (with_reducible refine AW_block ?_)
    | ((with_reducible refine condN_t ?_ ?_) <;> (intro hc; (try simp only [Bool.and_eq_true, Bool.or_eq_true, Bool.not_eq_true', Bool.and_eq_false_iff, Bool.or_eq_false_iff, decide_eq_true_eq, decide_eq_false_iff_not, bne_iff_ne, beq_iff_eq, reduceCtorEq, bne_eq_false_iff_eq, beq_eq_false_iff_ne, Bool.not_eq_false', Int.not_le, Int.not_lt, Bool.not_not] at hc); (try (exfalso; first | contradiction | omega))))
    | (with_reducible refine AW_regionP 0 [0, 1] ?_)
    | (with_reducible refine AW_regionP 1 [0, 1] ?_)
    | ((fail_if_success (with_reducible show AW _ _ _ _)); simp (maxSteps := 2000000) only [go_sem, reduceIte, reduceCtorEq, Nat.reduceAdd, Nat.reduceLT, Nat.reduceLeDiff, Nat.reduceEqDiff, Nat.reduceMul, Nat.reduceSub, Nat.reduceBEq, Try.f81])
    | ((with_reducible refine hK _ ?_); clear hK K))

set_option maxRecDepth 100000 in
set_option maxHeartbeats 4000000 in
theorem join_p (a b c d : Int) : CallsP Try.prog 54 [.agg [.g (.int .i64 (a)), .g (.int .i64 (b))], .agg [.g (.int .i64 (c)), .g (.int .i64 (d))]] (.tup [.agg [.g (.int .i64 (jL a b c d)), .g (.int .i64 (jH a b c d))], .one (.g (.int .i64 (jE a b c d)))]) := by
  refine CallsP_of Try.func54 rfl (by rw [Try.ntmps54]; simp) ?_
  simp only [Try.ntmps54, List.map_cons, List.map_nil, PT.tv, argEnv, Nat.zero_add, Nat.reduceAdd]
  repeat' (first
    | (with_reducible refine AW_seq_k fun K hK => ?_)
    | ((first | (with_reducible refine And.intro ?_ ?_) | (with_reducible refine Need.mk ?_)); focus (first | exact True.intro | (with_reducible assumption) | omega | (refine ⟨?_, ?_⟩ <;> omega) | (intro _; first | exact True.intro | (with_reducible assumption) | omega) | (intros; (repeat' (first | exact True.intro | omega | (with_reducible assumption) | (with_reducible refine And.intro ?_ ?_))); done) | (simp (disch := omega) only [Bool.and_eq_true, Bool.or_eq_true, decide_eq_true_eq, bne_iff_ne, ne_eq] at *; first | done | omega | (intros; omega)) | (simp; done) | (simp; omega) | (simp +contextual; done) | (intro h; rw [h]; rfl) | (intros; simp_all; done)))
    | (with_reducible refine AW_skip ?_)
    | (with_reducible refine AW_exit ?_)
    | (with_reducible refine AW_ret ?_)
    | (with_reducible refine retK_n ?_)
    | (with_reducible refine retK_n' ?_)
    | (with_reducible refine retH_n rfl rfl rfl ?_)
    | (with_reducible refine retH_n' rfl rfl rfl ?_)
    | (with_reducible refine AW_condI ?_)
    | (with_reducible refine AW_block ?_)
    | ((with_reducible refine condN_t ?_ ?_) <;> (intro hc; (try simp only [Bool.and_eq_true, Bool.or_eq_true, Bool.not_eq_true', Bool.and_eq_false_iff, Bool.or_eq_false_iff, decide_eq_true_eq, decide_eq_false_iff_not, bne_iff_ne, beq_iff_eq, reduceCtorEq, bne_eq_false_iff_eq, beq_eq_false_iff_ne, Bool.not_eq_false', Int.not_le, Int.not_lt, Bool.not_not] at hc); (try (exfalso; first | contradiction | omega))))
    | (with_reducible refine AW_regionP 0 [0, 1] ?_)
    | (with_reducible refine AW_regionP 1 [2, 3, 4] ?_)
    | (with_reducible refine AW_regionP 2 [4] ?_)
    | (with_reducible refine AW_regionP 3 [2, 3, 4] ?_)
    | (with_reducible refine AW_regionP 4 [2, 3, 4, 6] ?_)
    | (with_reducible refine AW_regionP 5 [4, 6, 9] ?_)
    | (refine callN_q (k := 64) fnok_64 (sValid_p _ _) ?_ ?_)
    | (refine callGN_q (k := 64) fnok_64 (fun hg => sValid_p _ _) ?_ ?_)
    | (refine callN_q (k := 81) fnok_81 (ends_p _ _) ?_ ?_)
    | ((fail_if_success (with_reducible show AW _ _ _ _)); simp (maxSteps := 2000000) only [go_sem, reduceIte, reduceCtorEq, Nat.reduceAdd, Nat.reduceLT, Nat.reduceLeDiff, Nat.reduceEqDiff, Nat.reduceMul, Nat.reduceSub, Nat.reduceBEq, Try.f54, zc_31, ty_31, fnok_64, fo_31, of_31_0, ty_3, fnok_81, of_31_1, pl_31_0, pl_31_1])
    | ((with_reducible refine hK _ ?_); clear hK K))
  all_goals (cases h1 : sv a b <;> cases h2 : sv c d <;> simp_all [jL, jH, jE]; try omega)

set_option maxRecDepth 100000 in
set_option maxHeartbeats 4000000 in
theorem rboth_p (a b c d : Int) : CallsP Try.prog 82 [.agg [.g (.int .i64 (a)), .g (.int .i64 (b))], .agg [.g (.int .i64 (c)), .g (.int .i64 (d))]] (.t (.one (.g (.bool (sv a b && sv c d))))) := by
  refine CallsP_of Try.func82 rfl (by rw [Try.ntmps82]; simp) ?_
  simp only [Try.ntmps82, List.map_cons, List.map_nil, PT.tv, argEnv, Nat.zero_add, Nat.reduceAdd]
  repeat' (first
    | (with_reducible refine AW_seq_k fun K hK => ?_)
    | ((first | (with_reducible refine And.intro ?_ ?_) | (with_reducible refine Need.mk ?_)); focus (first | exact True.intro | (with_reducible assumption) | omega | (refine ⟨?_, ?_⟩ <;> omega) | (intro _; first | exact True.intro | (with_reducible assumption) | omega) | (intros; (repeat' (first | exact True.intro | omega | (with_reducible assumption) | (with_reducible refine And.intro ?_ ?_))); done) | (simp (disch := omega) only [Bool.and_eq_true, Bool.or_eq_true, decide_eq_true_eq, bne_iff_ne, ne_eq] at *; first | done | omega | (intros; omega)) | (simp; done) | (simp; omega) | (simp +contextual; done) | (intro h; rw [h]; rfl) | (intros; simp_all; done)))
    | (with_reducible refine AW_skip ?_)
    | (with_reducible refine AW_exit ?_)
    | (with_reducible refine AW_ret ?_)
    | (with_reducible refine retK_n ?_)
    | (with_reducible refine retK_n' ?_)
    | (with_reducible refine retH_n rfl rfl rfl ?_)
    | (with_reducible refine retH_n' rfl rfl rfl ?_)
    | (with_reducible refine AW_condI ?_)
    | (with_reducible refine AW_block ?_)
    | ((with_reducible refine condN_t ?_ ?_) <;> (intro hc; (try simp only [Bool.and_eq_true, Bool.or_eq_true, Bool.not_eq_true', Bool.and_eq_false_iff, Bool.or_eq_false_iff, decide_eq_true_eq, decide_eq_false_iff_not, bne_iff_ne, beq_iff_eq, reduceCtorEq, bne_eq_false_iff_eq, beq_eq_false_iff_ne, Bool.not_eq_false', Int.not_le, Int.not_lt, Bool.not_not] at hc); (try (exfalso; first | contradiction | omega))))
    | (with_reducible refine AW_regionP 0 [0, 1] ?_)
    | (with_reducible refine AW_regionP 1 [2, 3] ?_)
    | (with_reducible refine AW_regionP 2 [3, 5] ?_)
    | (with_reducible refine AW_regionP 3 [5, 6] ?_)
    | (refine callN_q (k := 66) fnok_66 (rsValid_p _ _) ?_ ?_)
    | ((fail_if_success (with_reducible show AW _ _ _ _)); simp (maxSteps := 2000000) only [go_sem, reduceIte, reduceCtorEq, Nat.reduceAdd, Nat.reduceLT, Nat.reduceLeDiff, Nat.reduceEqDiff, Nat.reduceMul, Nat.reduceSub, Nat.reduceBEq, Try.f82, ty_31, fnok_66])
    | ((with_reducible refine hK _ ?_); clear hK K))

set_option maxRecDepth 100000 in
set_option maxHeartbeats 4000000 in
theorem rjoin_p (a b c d : Int) : CallsP Try.prog 57 [.agg [.g (.int .i64 (a)), .g (.int .i64 (b))], .agg [.g (.int .i64 (c)), .g (.int .i64 (d))]] (.tup [.agg [.g (.int .i64 (jL a b c d)), .g (.int .i64 (jH a b c d))], .one (.g (.int .i64 (jE a b c d)))]) := by
  refine CallsP_of Try.func57 rfl (by rw [Try.ntmps57]; simp) ?_
  simp only [Try.ntmps57, List.map_cons, List.map_nil, PT.tv, argEnv, Nat.zero_add, Nat.reduceAdd]
  repeat' (first
    | (with_reducible refine AW_seq_k fun K hK => ?_)
    | ((first | (with_reducible refine And.intro ?_ ?_) | (with_reducible refine Need.mk ?_)); focus (first | exact True.intro | (with_reducible assumption) | omega | (refine ⟨?_, ?_⟩ <;> omega) | (intro _; first | exact True.intro | (with_reducible assumption) | omega) | (intros; (repeat' (first | exact True.intro | omega | (with_reducible assumption) | (with_reducible refine And.intro ?_ ?_))); done) | (simp (disch := omega) only [Bool.and_eq_true, Bool.or_eq_true, decide_eq_true_eq, bne_iff_ne, ne_eq] at *; first | done | omega | (intros; omega)) | (simp; done) | (simp; omega) | (simp +contextual; done) | (intro h; rw [h]; rfl) | (intros; simp_all; done)))
    | (with_reducible refine AW_skip ?_)
    | (with_reducible refine AW_exit ?_)
    | (with_reducible refine AW_ret ?_)
    | (with_reducible refine retK_n ?_)
    | (with_reducible refine retK_n' ?_)
    | (with_reducible refine retH_n rfl rfl rfl ?_)
    | (with_reducible refine retH_n' rfl rfl rfl ?_)
    | (with_reducible refine AW_condI ?_)
    | (with_reducible refine AW_block ?_)
    | ((with_reducible refine condN_t ?_ ?_) <;> (intro hc; (try simp only [Bool.and_eq_true, Bool.or_eq_true, Bool.not_eq_true', Bool.and_eq_false_iff, Bool.or_eq_false_iff, decide_eq_true_eq, decide_eq_false_iff_not, bne_iff_ne, beq_iff_eq, reduceCtorEq, bne_eq_false_iff_eq, beq_eq_false_iff_ne, Bool.not_eq_false', Int.not_le, Int.not_lt, Bool.not_not] at hc); (try (exfalso; first | contradiction | omega))))
    | (with_reducible refine AW_regionP 0 [0, 1] ?_)
    | (with_reducible refine AW_regionP 1 [2, 3, 4] ?_)
    | (with_reducible refine AW_regionP 2 [2, 3, 4, 6] ?_)
    | (with_reducible refine AW_regionP 3 [4] ?_)
    | (with_reducible refine AW_regionP 4 [2, 3, 4] ?_)
    | (refine callN_q (k := 82) fnok_82 (rboth_p _ _ _ _) ?_ ?_)
    | ((fail_if_success (with_reducible show AW _ _ _ _)); simp (maxSteps := 2000000) only [go_sem, reduceIte, reduceCtorEq, Nat.reduceAdd, Nat.reduceLT, Nat.reduceLeDiff, Nat.reduceEqDiff, Nat.reduceMul, Nat.reduceSub, Nat.reduceBEq, Try.f57, zc_31, ty_31, fnok_82, fo_31, of_31_0, ty_3, of_31_1, pl_31_0, pl_31_1])
    | ((with_reducible refine hK _ ?_); clear hK K))
  all_goals (cases h1 : sv a b <;> cases h2 : sv c d <;> simp_all [jL, jH, jE]; try omega)

set_option maxRecDepth 100000 in
set_option maxHeartbeats 4000000 in
theorem meet_p (a b c d : Int) : CallsP Try.prog 84 [.agg [.g (.int .i64 (a)), .g (.int .i64 (b))], .agg [.g (.int .i64 (c)), .g (.int .i64 (d))]] (.tup [.agg [.g (.int .i64 (mL a b c d)), .g (.int .i64 (mH a b c d))], .one (.g (.int .i64 (mE a b c d)))]) := by
  refine CallsP_of Try.func84 rfl (by rw [Try.ntmps84]; simp) ?_
  simp only [Try.ntmps84, List.map_cons, List.map_nil, PT.tv, argEnv, Nat.zero_add, Nat.reduceAdd]
  repeat' (first
    | (with_reducible refine AW_seq_k fun K hK => ?_)
    | ((first | (with_reducible refine And.intro ?_ ?_) | (with_reducible refine Need.mk ?_)); focus (first | exact True.intro | (with_reducible assumption) | omega | (refine ⟨?_, ?_⟩ <;> omega) | (intro _; first | exact True.intro | (with_reducible assumption) | omega) | (intros; (repeat' (first | exact True.intro | omega | (with_reducible assumption) | (with_reducible refine And.intro ?_ ?_))); done) | (simp (disch := omega) only [Bool.and_eq_true, Bool.or_eq_true, decide_eq_true_eq, bne_iff_ne, ne_eq] at *; first | done | omega | (intros; omega)) | (simp; done) | (simp; omega) | (simp +contextual; done) | (intro h; rw [h]; rfl) | (intros; simp_all; done)))
    | (with_reducible refine AW_skip ?_)
    | (with_reducible refine AW_exit ?_)
    | (with_reducible refine AW_ret ?_)
    | (with_reducible refine retK_n ?_)
    | (with_reducible refine retK_n' ?_)
    | (with_reducible refine retH_n rfl rfl rfl ?_)
    | (with_reducible refine retH_n' rfl rfl rfl ?_)
    | (with_reducible refine AW_condI ?_)
    | (with_reducible refine AW_block ?_)
    | ((with_reducible refine condN_t ?_ ?_) <;> (intro hc; (try simp only [Bool.and_eq_true, Bool.or_eq_true, Bool.not_eq_true', Bool.and_eq_false_iff, Bool.or_eq_false_iff, decide_eq_true_eq, decide_eq_false_iff_not, bne_iff_ne, beq_iff_eq, reduceCtorEq, bne_eq_false_iff_eq, beq_eq_false_iff_ne, Bool.not_eq_false', Int.not_le, Int.not_lt, Bool.not_not] at hc); (try (exfalso; first | contradiction | omega))))
    | (with_reducible refine AW_regionP 0 [0, 1] ?_)
    | (with_reducible refine AW_regionP 1 [2, 3, 4] ?_)
    | (with_reducible refine AW_regionP 2 [4] ?_)
    | (with_reducible refine AW_regionP 3 [2, 3, 4] ?_)
    | (with_reducible refine AW_regionP 4 [4, 6] ?_)
    | (with_reducible refine AW_regionP 5 [4] ?_)
    | (with_reducible refine AW_regionP 6 [4, 6] ?_)
    | (refine callN_q (k := 64) fnok_64 (sValid_p _ _) ?_ ?_)
    | (refine callGN_q (k := 64) fnok_64 (fun hg => sValid_p _ _) ?_ ?_)
    | ((fail_if_success (with_reducible show AW _ _ _ _)); simp (maxSteps := 2000000) only [go_sem, reduceIte, reduceCtorEq, Nat.reduceAdd, Nat.reduceLT, Nat.reduceLeDiff, Nat.reduceEqDiff, Nat.reduceMul, Nat.reduceSub, Nat.reduceBEq, Try.f84, zc_31, ty_31, fnok_64, fo_31, of_31_0, ty_3, of_31_1, pl_31_0, pl_31_1])
    | ((with_reducible refine hK _ ?_); clear hK K))
  all_goals (cases h1 : sv a b <;> cases h2 : sv c d <;> simp_all [mL, mH, mE])
  all_goals (have h3 : ¬ min b d < max a c := by omega
             simp [h3])

set_option maxRecDepth 100000 in
set_option maxHeartbeats 4000000 in
theorem rmeet_p (a b c d : Int) : CallsP Try.prog 62 [.agg [.g (.int .i64 (a)), .g (.int .i64 (b))], .agg [.g (.int .i64 (c)), .g (.int .i64 (d))]] (.tup [.agg [.g (.int .i64 (mL a b c d)), .g (.int .i64 (mH a b c d))], .one (.g (.int .i64 (mE a b c d)))]) := by
  refine CallsP_of Try.func62 rfl (by rw [Try.ntmps62]; simp) ?_
  simp only [Try.ntmps62, List.map_cons, List.map_nil, PT.tv, argEnv, Nat.zero_add, Nat.reduceAdd]
  repeat' (first
    | (with_reducible refine AW_seq_k fun K hK => ?_)
    | ((first | (with_reducible refine And.intro ?_ ?_) | (with_reducible refine Need.mk ?_)); focus (first | exact True.intro | (with_reducible assumption) | omega | (refine ⟨?_, ?_⟩ <;> omega) | (intro _; first | exact True.intro | (with_reducible assumption) | omega) | (intros; (repeat' (first | exact True.intro | omega | (with_reducible assumption) | (with_reducible refine And.intro ?_ ?_))); done) | (simp (disch := omega) only [Bool.and_eq_true, Bool.or_eq_true, decide_eq_true_eq, bne_iff_ne, ne_eq] at *; first | done | omega | (intros; omega)) | (simp; done) | (simp; omega) | (simp +contextual; done) | (intro h; rw [h]; rfl) | (intros; simp_all; done)))
    | (with_reducible refine AW_skip ?_)
    | (with_reducible refine AW_exit ?_)
    | (with_reducible refine AW_ret ?_)
    | (with_reducible refine retK_n ?_)
    | (with_reducible refine retK_n' ?_)
    | (with_reducible refine retH_n rfl rfl rfl ?_)
    | (with_reducible refine retH_n' rfl rfl rfl ?_)
    | (with_reducible refine AW_condI ?_)
    | (with_reducible refine AW_block ?_)
    | ((with_reducible refine condN_t ?_ ?_) <;> (intro hc; (try simp only [Bool.and_eq_true, Bool.or_eq_true, Bool.not_eq_true', Bool.and_eq_false_iff, Bool.or_eq_false_iff, decide_eq_true_eq, decide_eq_false_iff_not, bne_iff_ne, beq_iff_eq, reduceCtorEq, bne_eq_false_iff_eq, beq_eq_false_iff_ne, Bool.not_eq_false', Int.not_le, Int.not_lt, Bool.not_not] at hc); (try (exfalso; first | contradiction | omega))))
    | (with_reducible refine AW_regionP 0 [0, 1] ?_)
    | (with_reducible refine AW_regionP 1 [2, 3, 4] ?_)
    | (with_reducible refine AW_regionP 2 [2, 3, 4, 6] ?_)
    | (with_reducible refine AW_regionP 3 [4] ?_)
    | (with_reducible refine AW_regionP 4 [2, 3, 4] ?_)
    | (with_reducible refine AW_regionP 5 [4, 7] ?_)
    | (with_reducible refine AW_regionP 6 [4] ?_)
    | (with_reducible refine AW_regionP 7 [4, 7] ?_)
    | (refine callN_q (k := 82) fnok_82 (rboth_p _ _ _ _) ?_ ?_)
    | ((fail_if_success (with_reducible show AW _ _ _ _)); simp (maxSteps := 2000000) only [go_sem, reduceIte, reduceCtorEq, Nat.reduceAdd, Nat.reduceLT, Nat.reduceLeDiff, Nat.reduceEqDiff, Nat.reduceMul, Nat.reduceSub, Nat.reduceBEq, Try.f62, zc_31, ty_31, fnok_82, fo_31, of_31_0, ty_3, of_31_1, pl_31_0, pl_31_1])
    | ((with_reducible refine hK _ ?_); clear hK K))
  all_goals (cases h1 : sv a b <;> cases h2 : sv c d <;> simp_all [mL, mH, mE])
  all_goals (have h3 : ¬ min b d < max a c := by omega
             simp [h3])

set_option maxRecDepth 100000 in
set_option maxHeartbeats 4000000 in
theorem kept_p (a b : Int) : CallsP Try.prog 85 [.agg [.g (.int .i64 (a)), .g (.int .i64 (b))]] (.tup [.agg [.g (.int .i64 (bif sv a b then a else 0)), .g (.int .i64 (bif sv a b then b else 0))], .one (.g (.int .i64 (bif sv a b then 0 else 3)))]) := by
  refine CallsP_of Try.func85 rfl (by rw [Try.ntmps85]; simp) ?_
  simp only [Try.ntmps85, List.map_cons, List.map_nil, PT.tv, argEnv, Nat.zero_add, Nat.reduceAdd]
  repeat' (first
    | (with_reducible refine AW_seq_k fun K hK => ?_)
    | ((first | (with_reducible refine And.intro ?_ ?_) | (with_reducible refine Need.mk ?_)); focus (first | exact True.intro | (with_reducible assumption) | omega | (refine ⟨?_, ?_⟩ <;> omega) | (intro _; first | exact True.intro | (with_reducible assumption) | omega) | (intros; (repeat' (first | exact True.intro | omega | (with_reducible assumption) | (with_reducible refine And.intro ?_ ?_))); done) | (simp (disch := omega) only [Bool.and_eq_true, Bool.or_eq_true, decide_eq_true_eq, bne_iff_ne, ne_eq] at *; first | done | omega | (intros; omega)) | (simp; done) | (simp; omega) | (simp +contextual; done) | (intro h; rw [h]; rfl) | (intros; simp_all; done)))
    | (with_reducible refine AW_skip ?_)
    | (with_reducible refine AW_exit ?_)
    | (with_reducible refine AW_ret ?_)
    | (with_reducible refine retK_n ?_)
    | (with_reducible refine retK_n' ?_)
    | (with_reducible refine retH_n rfl rfl rfl ?_)
    | (with_reducible refine retH_n' rfl rfl rfl ?_)
    | (with_reducible refine AW_condI ?_)
    | (with_reducible refine AW_block ?_)
    | ((with_reducible refine condN_t ?_ ?_) <;> (intro hc; (try simp only [Bool.and_eq_true, Bool.or_eq_true, Bool.not_eq_true', Bool.and_eq_false_iff, Bool.or_eq_false_iff, decide_eq_true_eq, decide_eq_false_iff_not, bne_iff_ne, beq_iff_eq, reduceCtorEq, bne_eq_false_iff_eq, beq_eq_false_iff_ne, Bool.not_eq_false', Int.not_le, Int.not_lt, Bool.not_not] at hc); (try (exfalso; first | contradiction | omega))))
    | (with_reducible refine AW_regionP 0 [0] ?_)
    | (with_reducible refine AW_regionP 1 [1, 2] ?_)
    | (with_reducible refine AW_regionP 2 [2] ?_)
    | (with_reducible refine AW_regionP 3 [1, 2] ?_)
    | (refine callN_q (k := 64) fnok_64 (sValid_p _ _) ?_ ?_)
    | ((fail_if_success (with_reducible show AW _ _ _ _)); simp (maxSteps := 2000000) only [go_sem, reduceIte, reduceCtorEq, Nat.reduceAdd, Nat.reduceLT, Nat.reduceLeDiff, Nat.reduceEqDiff, Nat.reduceMul, Nat.reduceSub, Nat.reduceBEq, Try.f85, zc_31, ty_31, fnok_64, fo_31])
    | ((with_reducible refine hK _ ?_); clear hK K))
  all_goals (cases h1 : sv a b <;> simp_all)

set_option maxRecDepth 100000 in
set_option maxHeartbeats 4000000 in
theorem bounded_p (a b : Int) : CallsP Try.prog 86 [.agg [.g (.int .i64 (a)), .g (.int .i64 (b))]] (.tup [.agg [.g (.int .i64 (bif sv a b then a else 0)), .g (.int .i64 (bif sv a b then b else 0))], .one (.g (.int .i64 (bif sv a b then 0 else 3)))]) := by
  refine CallsP_of Try.func86 rfl (by rw [Try.ntmps86]; simp) ?_
  simp only [Try.ntmps86, List.map_cons, List.map_nil, PT.tv, argEnv, Nat.zero_add, Nat.reduceAdd]
  repeat' (first
    | (with_reducible refine AW_seq_k fun K hK => ?_)
    | ((first | (with_reducible refine And.intro ?_ ?_) | (with_reducible refine Need.mk ?_)); focus (first | exact True.intro | (with_reducible assumption) | omega | (refine ⟨?_, ?_⟩ <;> omega) | (intro _; first | exact True.intro | (with_reducible assumption) | omega) | (intros; (repeat' (first | exact True.intro | omega | (with_reducible assumption) | (with_reducible refine And.intro ?_ ?_))); done) | (simp (disch := omega) only [Bool.and_eq_true, Bool.or_eq_true, decide_eq_true_eq, bne_iff_ne, ne_eq] at *; first | done | omega | (intros; omega)) | (simp; done) | (simp; omega) | (simp +contextual; done) | (intro h; rw [h]; rfl) | (intros; simp_all; done)))
    | (with_reducible refine AW_skip ?_)
    | (with_reducible refine AW_exit ?_)
    | (with_reducible refine AW_ret ?_)
    | (with_reducible refine retK_n ?_)
    | (with_reducible refine retK_n' ?_)
    | (with_reducible refine retH_n rfl rfl rfl ?_)
    | (with_reducible refine retH_n' rfl rfl rfl ?_)
    | (with_reducible refine AW_condI ?_)
    | (with_reducible refine AW_block ?_)
    | ((with_reducible refine condN_t ?_ ?_) <;> (intro hc; (try simp only [Bool.and_eq_true, Bool.or_eq_true, Bool.not_eq_true', Bool.and_eq_false_iff, Bool.or_eq_false_iff, decide_eq_true_eq, decide_eq_false_iff_not, bne_iff_ne, beq_iff_eq, reduceCtorEq, bne_eq_false_iff_eq, beq_eq_false_iff_ne, Bool.not_eq_false', Int.not_le, Int.not_lt, Bool.not_not] at hc); (try (exfalso; first | contradiction | omega))))
    | (with_reducible refine AW_regionP 0 [0] ?_)
    | (with_reducible refine AW_regionP 1 [1, 2] ?_)
    | (with_reducible refine AW_regionP 2 [1, 2, 4] ?_)
    | (with_reducible refine AW_regionP 3 [2] ?_)
    | (with_reducible refine AW_regionP 4 [1, 2] ?_)
    | (refine callN_q (k := 66) fnok_66 (rsValid_p _ _) ?_ ?_)
    | ((fail_if_success (with_reducible show AW _ _ _ _)); simp (maxSteps := 2000000) only [go_sem, reduceIte, reduceCtorEq, Nat.reduceAdd, Nat.reduceLT, Nat.reduceLeDiff, Nat.reduceEqDiff, Nat.reduceMul, Nat.reduceSub, Nat.reduceBEq, Try.f86, zc_31, ty_31, fnok_66, fo_31])
    | ((with_reducible refine hK _ ?_); clear hK K))
  all_goals (cases h1 : sv a b <;> simp_all)

set_option maxRecDepth 100000 in
set_option maxHeartbeats 4000000 in
theorem add_p (a b c d : Int) : CallsP Try.prog 65 [.agg [.g (.int .i64 (a)), .g (.int .i64 (b))], .agg [.g (.int .i64 (c)), .g (.int .i64 (d))]] (.tup [.agg [.g (.int .i64 (aL a b c d)), .g (.int .i64 (aH a b c d))], .one (.g (.int .i64 (aE a b c d)))]) := by
  refine CallsP_of Try.func65 rfl (by rw [Try.ntmps65]; simp) ?_
  simp only [Try.ntmps65, List.map_cons, List.map_nil, PT.tv, argEnv, Nat.zero_add, Nat.reduceAdd]
  repeat' (first
    | (with_reducible refine AW_seq_k fun K hK => ?_)
    | ((first | (with_reducible refine And.intro ?_ ?_) | (with_reducible refine Need.mk ?_)); focus (first | exact True.intro | (with_reducible assumption) | omega | (refine ⟨?_, ?_⟩ <;> omega) | (intro _; first | exact True.intro | (with_reducible assumption) | omega) | (intros; (repeat' (first | exact True.intro | omega | (with_reducible assumption) | (with_reducible refine And.intro ?_ ?_))); done) | (simp (disch := omega) only [Bool.and_eq_true, Bool.or_eq_true, decide_eq_true_eq, bne_iff_ne, ne_eq] at *; first | done | omega | (intros; omega)) | (simp; done) | (simp; omega) | (simp +contextual; done) | (intro h; rw [h]; rfl) | (intros; simp_all; done)))
    | (with_reducible refine AW_skip ?_)
    | (with_reducible refine AW_exit ?_)
    | (with_reducible refine AW_ret ?_)
    | (with_reducible refine retK_n ?_)
    | (with_reducible refine retK_n' ?_)
    | (with_reducible refine retH_n rfl rfl rfl ?_)
    | (with_reducible refine retH_n' rfl rfl rfl ?_)
    | (with_reducible refine AW_condI ?_)
    | (with_reducible refine AW_block ?_)
    | ((with_reducible refine condN_t ?_ ?_) <;> (intro hc; (try simp only [Bool.and_eq_true, Bool.or_eq_true, Bool.not_eq_true', Bool.and_eq_false_iff, Bool.or_eq_false_iff, decide_eq_true_eq, decide_eq_false_iff_not, bne_iff_ne, beq_iff_eq, reduceCtorEq, bne_eq_false_iff_eq, beq_eq_false_iff_ne, Bool.not_eq_false', Int.not_le, Int.not_lt, Bool.not_not] at hc); (try (exfalso; first | contradiction | omega))))
    | (with_reducible refine AW_regionP 0 [0, 1] ?_)
    | (with_reducible refine AW_regionP 1 [2, 3, 4] ?_)
    | (with_reducible refine AW_regionP 2 [4] ?_)
    | (with_reducible refine AW_regionP 3 [2, 3, 4] ?_)
    | (refine callN_q (k := 64) fnok_64 (sValid_p _ _) ?_ ?_)
    | (refine callGN_q (k := 64) fnok_64 (fun hg => sValid_p _ _) ?_ ?_)
    | (refine callN_q (k := 85) fnok_85 (kept_p _ _) ?_ ?_)
    | ((fail_if_success (with_reducible show AW _ _ _ _)); simp (maxSteps := 2000000) only [go_sem, reduceIte, reduceCtorEq, Nat.reduceAdd, Nat.reduceLT, Nat.reduceLeDiff, Nat.reduceEqDiff, Nat.reduceMul, Nat.reduceSub, Nat.reduceBEq, Try.f65, zc_31, ty_31, fnok_64, fo_31, of_31_0, ty_3, of_31_1, pl_31_0, pl_31_1, fnok_85])
    | ((fail_if_success (with_reducible show AW _ _ _ _)); simp (disch := omega) only [seaWrap, seaDiv, seaMod])
    | ((with_reducible refine hK _ ?_); clear hK K))
  all_goals (cases h1 : sv a b <;> cases h2 : sv c d <;> simp_all [aL, aH, aE]; try (have := sv_bd h1; have := sv_bd h2; rw [seaWrap (n := a + c) (by omega) (by omega), seaWrap (n := b + d) (by omega) (by omega)]; cases sv (a + c) (b + d) <;> simp))

set_option maxRecDepth 100000 in
set_option maxHeartbeats 4000000 in
theorem radd_p (a b c d : Int) : CallsP Try.prog 67 [.agg [.g (.int .i64 (a)), .g (.int .i64 (b))], .agg [.g (.int .i64 (c)), .g (.int .i64 (d))]] (.tup [.agg [.g (.int .i64 (aL a b c d)), .g (.int .i64 (aH a b c d))], .one (.g (.int .i64 (aE a b c d)))]) := by
  refine CallsP_of Try.func67 rfl (by rw [Try.ntmps67]; simp) ?_
  simp only [Try.ntmps67, List.map_cons, List.map_nil, PT.tv, argEnv, Nat.zero_add, Nat.reduceAdd]
  repeat' (first
    | (with_reducible refine AW_seq_k fun K hK => ?_)
    | ((first | (with_reducible refine And.intro ?_ ?_) | (with_reducible refine Need.mk ?_)); focus (first | exact True.intro | (with_reducible assumption) | omega | (refine ⟨?_, ?_⟩ <;> omega) | (intro _; first | exact True.intro | (with_reducible assumption) | omega) | (intros; (repeat' (first | exact True.intro | omega | (with_reducible assumption) | (with_reducible refine And.intro ?_ ?_))); done) | (simp (disch := omega) only [Bool.and_eq_true, Bool.or_eq_true, decide_eq_true_eq, bne_iff_ne, ne_eq] at *; first | done | omega | (intros; omega)) | (simp; done) | (simp; omega) | (simp +contextual; done) | (intro h; rw [h]; rfl) | (intros; simp_all; done)))
    | (with_reducible refine AW_skip ?_)
    | (with_reducible refine AW_exit ?_)
    | (with_reducible refine AW_ret ?_)
    | (with_reducible refine retK_n ?_)
    | (with_reducible refine retK_n' ?_)
    | (with_reducible refine retH_n rfl rfl rfl ?_)
    | (with_reducible refine retH_n' rfl rfl rfl ?_)
    | (with_reducible refine AW_condI ?_)
    | (with_reducible refine AW_block ?_)
    | ((with_reducible refine condN_t ?_ ?_) <;> (intro hc; (try simp only [Bool.and_eq_true, Bool.or_eq_true, Bool.not_eq_true', Bool.and_eq_false_iff, Bool.or_eq_false_iff, decide_eq_true_eq, decide_eq_false_iff_not, bne_iff_ne, beq_iff_eq, reduceCtorEq, bne_eq_false_iff_eq, beq_eq_false_iff_ne, Bool.not_eq_false', Int.not_le, Int.not_lt, Bool.not_not] at hc); (try (exfalso; first | contradiction | omega))))
    | (with_reducible refine AW_regionP 0 [0, 1] ?_)
    | (with_reducible refine AW_regionP 1 [2, 3, 4] ?_)
    | (with_reducible refine AW_regionP 2 [2, 3, 4, 6] ?_)
    | (with_reducible refine AW_regionP 3 [4] ?_)
    | (with_reducible refine AW_regionP 4 [2, 3, 4] ?_)
    | (refine callN_q (k := 82) fnok_82 (rboth_p _ _ _ _) ?_ ?_)
    | (refine callN_q (k := 86) fnok_86 (bounded_p _ _) ?_ ?_)
    | ((fail_if_success (with_reducible show AW _ _ _ _)); simp (maxSteps := 2000000) only [go_sem, reduceIte, reduceCtorEq, Nat.reduceAdd, Nat.reduceLT, Nat.reduceLeDiff, Nat.reduceEqDiff, Nat.reduceMul, Nat.reduceSub, Nat.reduceBEq, Try.f67, zc_31, ty_31, fnok_82, fo_31, of_31_0, ty_3, of_31_1, pl_31_0, pl_31_1, fnok_86])
    | ((fail_if_success (with_reducible show AW _ _ _ _)); simp (disch := omega) only [seaWrap, seaDiv, seaMod])
    | ((with_reducible refine hK _ ?_); clear hK K))
  all_goals (cases h1 : sv a b <;> cases h2 : sv c d <;> simp_all [aL, aH, aE]; try (have := sv_bd h1; have := sv_bd h2; rw [seaWrap (n := a + c) (by omega) (by omega), seaWrap (n := b + d) (by omega) (by omega)]; cases sv (a + c) (b + d) <;> simp))

theorem rval_f {s st : Int} {n : Nat} {lo hi : Nat → Int} (hc : ((((tm s = false ∨ st < 1) ∨ st > 1000) ∨ (n : Int) < 1) ∨ (n : Int) > 200) ∨ lastW s st n > 10000000) : tval s st n lo hi = false := by
  unfold tval
  rw [Bool.and_eq_false_iff]
  refine Or.inl (decide_eq_false fun h => ?_)
  have e := lastW_eq h.1 h.2.1 h.2.2.2.2.1 h.2.2.2.2.2.1 h.2.2.1 h.2.2.2.1
  have e1 : tm s = true := decide_eq_true ⟨h.1, h.2.1⟩
  rw [e, e1] at hc
  simp at hc
  omega
theorem rval_t {s st : Int} {n k : Nat} {lo hi : Nat → Int} (h : ((((tm s = true ∧ 1 ≤ st) ∧ st ≤ 1000) ∧ 1 ≤ (n : Int)) ∧ (n : Int) ≤ 200) ∧ lastW s st n ≤ 10000000) (hk : (n : Int) ≤ k) (hc : ∀ i, i < k → hv (lo i) (hi i) = true) : tval s st n lo hi = true := by
  obtain ⟨⟨⟨⟨⟨h1, h2⟩, h3⟩, h4⟩, h5⟩, h6⟩ := h
  have h1' := tm_bd h1
  have e := lastW_eq h1'.1 h1'.2 (by omega : 1 ≤ n) (by omega) h2 h3
  have e2 := prod_bd (n := n) (st := st) (by omega) (by omega) h2 h3
  refine tval_t (k := k) ⟨⟨⟨⟨⟨h1, h2⟩, h3⟩, by omega⟩, h5⟩, ?_⟩ hk hc
  exact decide_eq_true ⟨by omega, h6⟩

set_option maxRecDepth 100000 in
set_option maxHeartbeats 4000000 in
theorem rvalid_p (s st : Int) (n : Nat) (lo hi : Nat → Int) : CallsP Try.prog 17 [tideP s st n lo hi] (.t (.one (.g (.bool (tval s st n lo hi))))) := by
  refine CallsP_of Try.func17 rfl (by rw [Try.ntmps17]; simp) ?_
  simp only [Try.ntmps17, List.map_cons, List.map_nil, PT.tv, argEnv, Nat.zero_add, Nat.reduceAdd]
  repeat' (first
    | (with_reducible refine AW_seq_k fun K hK => ?_)
    | ((first | (with_reducible refine And.intro ?_ ?_) | (with_reducible refine Need.mk ?_)); focus (first | exact True.intro | (with_reducible assumption) | omega | (refine ⟨?_, ?_⟩ <;> omega) | (intro _; first | exact True.intro | (with_reducible assumption) | omega) | (intros; (repeat' (first | exact True.intro | omega | (with_reducible assumption) | (with_reducible refine And.intro ?_ ?_))); done) | (simp (disch := omega) only [Bool.and_eq_true, Bool.or_eq_true, decide_eq_true_eq, bne_iff_ne, ne_eq] at *; first | done | omega | (intros; omega)) | (simp; done) | (simp; omega) | (simp +contextual; done) | (intro h; rw [h]; rfl) | (intros; simp_all; done)))
    | (with_reducible refine AW_skip ?_)
    | (with_reducible refine AW_exit ?_)
    | (with_reducible refine AW_ret ?_)
    | (with_reducible refine retK_n ?_)
    | (with_reducible refine retK_n' ?_)
    | (with_reducible refine retH_n rfl rfl rfl ?_)
    | (with_reducible refine retH_n' rfl rfl rfl ?_)
    | (with_reducible refine AW_condI ?_)
    | (with_reducible refine AW_block ?_)
    | ((with_reducible refine condN_t ?_ ?_) <;> (intro hc; (try simp only [Bool.and_eq_true, Bool.or_eq_true, Bool.not_eq_true', Bool.and_eq_false_iff, Bool.or_eq_false_iff, decide_eq_true_eq, decide_eq_false_iff_not, bne_iff_ne, beq_iff_eq, reduceCtorEq, bne_eq_false_iff_eq, beq_eq_false_iff_ne, Bool.not_eq_false', Int.not_le, Int.not_lt, Bool.not_not] at hc); (try (exfalso; first | contradiction | omega))))
    | (with_reducible refine AW_regionP 0 [0] ?_)
    | (with_reducible refine AW_regionP 1 [1] ?_)
    | (with_reducible refine AW_regionP 2 [1, 3] ?_)
    | (with_reducible refine AW_regionP 3 [1, 3, 4] ?_)
    | (with_reducible refine AW_regionP 4 [] ?_)
    | (with_reducible refine AW_regionP 5 [1, 4] ?_)
    | (with_reducible refine AW_regionP 6 [1, 4, 5] ?_)
    | (with_reducible refine AW_regionP 7 [1, 4, 5] ?_)
    | (with_reducible refine AW_regionP 8 [1, 4, 5] ?_)
    | (with_reducible refine AW_regionP 9 [1, 4, 5, 6] ?_)
    | (with_reducible refine AW_regionP 10 [] ?_)
    | (with_reducible refine AW_regionP 11 [] ?_)
    | (refine callN_q (k := 50) fnok_50 (rTime_p _) ?_ ?_)
    | (refine callN_q (k := 51) fnok_51 (rHeight0_p _ _) ?_ ?_)
    | ((with_reducible refine AW_loopQ (c := (Code.seq (Code.seq (Code.region 6 _ _) _) _)) (ι := Nat) [1, 4] (fun k => [(5, iA .i64 (k : Int))]) (fun k => []) (fun k => k ≤ n ∧ (∀ i, i < k → hv (lo i) (hi i) = true)) (fun k => n - k) 0 ?lg6 ?l16 ?l26 ?li6 ?lr6); (case' lg6 => rintro k _); (case' li6 => try (exact ⟨Nat.zero_le _, fun i hi => absurd hi (Nat.not_lt_zero _)⟩)); (case' lr6 => rintro k ⟨h1, h2⟩ KR hR6; skip; simp only [keepE, hupd, hset, lk, if_true, if_false, Nat.reduceEqDiff, reduceIte, List.cons_append, List.nil_append, spanF0, spanF1]))
    | ((with_reducible refine hR6 _ (k + 1) ?_); (try clear hR6 KR))
    | ((with_reducible refine Told.mk ?_); simp only [go_sem, reduceIte, reduceCtorEq, Nat.reduceAdd, Nat.reduceLT, Nat.reduceLeDiff, Nat.reduceEqDiff, Nat.reduceMul, Nat.reduceSub, Nat.reduceBEq, spanF0, spanF1] <;> (first | exact True.intro | (((try simp (disch := omega) only [seaWrap, Int.natCast_add, Int.cast_ofNat_Int, and_true, true_and, and_self]); (repeat' (first | exact True.intro | omega | (with_reducible assumption) | (with_reducible refine And.intro ?_ ?_) | (exact all_succ (by assumption) (by assumption)))); done)) | (refine Stuck.out ?_)))
    | ((fail_if_success (with_reducible show AW _ _ _ _)); simp (maxSteps := 2000000) only [go_sem, reduceIte, reduceCtorEq, Nat.reduceAdd, Nat.reduceLT, Nat.reduceLeDiff, Nat.reduceEqDiff, Nat.reduceMul, Nat.reduceSub, Nat.reduceBEq, Try.f17, of_24_0, ty_3, fnok_50, of_24_2, ty_22, le_22, of_24_1, sl_22, ar_22, ty_31, fnok_51, spanF0, spanF1])
    | ((fail_if_success (with_reducible show AW _ _ _ _)); simp (disch := omega) only [seaWrap, seaDiv, seaMod])
    | ((with_reducible refine hK _ ?_); clear hK K)
    | (with_reducible apply_assumption -exfalso))
  all_goals (refine Eq.symm ?_; first | exact rval_f (by assumption) | exact tval_k ‹_› ‹_› | exact rval_t (by assumption) (by assumption) (by assumption))

end Go.Proofs.Ythfnmooeijneoaa
