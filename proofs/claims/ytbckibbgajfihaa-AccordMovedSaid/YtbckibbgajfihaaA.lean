/- A: walks on abstract states. -/
import Derived.Test.YtbckibbgajfihaaSeaV
import Derived.Test.YtbckibbgajfihaaProg
set_option linter.unusedVariables false
set_option linter.unusedSimpArgs false
namespace Go.Proofs.Ytbckibbgajfihaa
open Go.RowKit Go.Sea
attribute [local go_sem] callK_N gf gk gdrop lkL setL lsF ltAll rdyL bodyF roundQ roundS loopQ loopS jumpOf inLs yV yA bAV zipPut purgeG List.tail_cons Option.isNone_none Option.isNone_some callGK_f callDK_f callDGK_f retN retHN blockA arun_nil arun_plain arun_guard plainF guardF guardB arunD_nil arunD_plain arunD_guard plainDF guardDF guardDB AS.ent Eff.noApp Eff.tgt ftF AV.refs TV.refs CV.refs LV.refs Op.operands Call.operands List.append_toArray List.push_toArray List.flatMap_cons List.flatMap_nil List.toList_toArray Option.toArray List.reverse_cons List.reverse_nil opF AS.ev constA lk AS.get AV.tv AV.nd AS.eff AS.put argEnv PT.tv PV.av AV.mbOf hset hget TV.cells dstOk thenA gB isB toB TV.bool? TV.int? intF loadF storeF fieldF indexF lenF sliceF optI appF minmaxF ipCells fillF repC partsF lvsF TV.lv LV.tv purgeE purgeC purgeH AV.purge CV.purge AV.has TV.has CV.has LV.has calleeF argsF tvsF toPT toIV toIVs toPTs toPV civ isIv iA bA List.map_cons List.map_nil List.length_nil List.length_cons List.getElem?_cons_zero List.getElem?_cons_succ List.getElem?_nil Option.getD_some Option.getD_none Option.bind_some Option.bind_none List.take_succ_cons List.take_zero List.drop_succ_cons List.drop_zero List.take_nil List.drop_nil List.cons_append List.nil_append List.append_nil List.getD_cons_zero List.getD_cons_succ Option.map_some Option.map_none Option.isSome_some Option.isSome_none List.size_toArray List.any_cons List.any_nil List.mem_cons if_true if_false ite_true ite_false cond_true cond_false Nat.zero_add Nat.add_zero Nat.sub_zero Nat.le_refl Nat.zero_mul Nat.mul_zero Nat.one_mul Nat.mul_one Int.toNat_zero Int.toNat_natCast Bool.or_false Bool.false_or Bool.or_true Bool.true_or Bool.and_true Bool.true_and Bool.and_false Bool.false_and beq_self_eq_true beq_true beq_false Bool.not_true Bool.not_false and_true true_and and_false false_and and_self imp_self Bool.cond_false_right Bool.cond_true_left implies_true forall_const true_implies false_implies Option.some.injEq Prod.mk.injEq ne_eq not_false_eq_true not_true_eq_false eq_self Nat.lt_irrefl Nat.not_lt_zero callDK_t calleeT eqN barOp boF seaMin seaMax seaNat1 seaNat2 Value.bool.injEq Value.int.injEq srcF lstC TV.dp IV.eqv PT.eqv PV.eqv All2 keepE hupd callZ_N AS.frz AS.frzW frzs frzsOk frzOk frzE frzA frzT frzC frzG frzH hdel cmpS eqF eqC gvs eqVs eqV decide_true resF tupA inlQ okL okGL okG nextL wkH wkC wkV nilA nilC AV.ok TV.ok CV.ok LV.ok okB forall_eq_or_imp forall_eq List.not_mem_nil List.mem_singleton true_or or_true or_false false_or or_self exists_prop AV.t.injEq TV.one.injEq CV.iv.injEq IV.g.injEq TV.agg.injEq List.cons.injEq
theorem bo_38 : boD Try.prog 38 = false := by kernel_rfl
theorem eq_38 : eqD Try.prog 38 = some (true, [.int .i64, .int .i64]) := by kernel_rfl
theorem fnok_26 : fnOk Try.prog 26 = true := by kernel_rfl
theorem fnok_39 : fnOk Try.prog 39 = true := by kernel_rfl
theorem fnok_40 : fnOk Try.prog 40 = true := by kernel_rfl
theorem fnok_43 : fnOk Try.prog 43 = true := by kernel_rfl
theorem fnok_46 : fnOk Try.prog 46 = true := by kernel_rfl
theorem fnok_47 : fnOk Try.prog 47 = true := by kernel_rfl
theorem fnok_48 : fnOk Try.prog 48 = true := by kernel_rfl
theorem fnok_49 : fnOk Try.prog 49 = true := by kernel_rfl
theorem fnok_58 : fnOk Try.prog 58 = true := by kernel_rfl
theorem fnok_59 : fnOk Try.prog 59 = true := by kernel_rfl
theorem fo_38 : fieldsOk Try.prog 38 = true := by kernel_rfl
theorem fo_40 : fieldsOk Try.prog 40 = true := by kernel_rfl
theorem of_24_0 : offOf Try.prog 24 0 = some 0 := by kernel_rfl
theorem of_24_1 : offOf Try.prog 24 1 = some 1 := by kernel_rfl
theorem of_38_0 : offOf Try.prog 38 0 = some 0 := by kernel_rfl
theorem of_38_1 : offOf Try.prog 38 1 = some 1 := by kernel_rfl
theorem of_40_0 : offOf Try.prog 40 0 = some 0 := by kernel_rfl
theorem of_40_1 : offOf Try.prog 40 1 = some 2 := by kernel_rfl
theorem of_42_0 : offOf Try.prog 42 0 = some 0 := by kernel_rfl
theorem of_42_1 : offOf Try.prog 42 1 = some 1 := by kernel_rfl
theorem pl_38_0 : placeF Try.prog 38 0 = some (0, 1) := by kernel_rfl
theorem pl_38_1 : placeF Try.prog 38 1 = some (1, 1) := by kernel_rfl
theorem pl_40_0 : placeF Try.prog 40 0 = some (0, 2) := by kernel_rfl
theorem pl_40_1 : placeF Try.prog 40 1 = some (2, 2) := by kernel_rfl
theorem ty_3 : tyD Try.prog 3 = some (false, 1) := by kernel_rfl
theorem ty_38 : tyD Try.prog 38 = some (true, 2) := by kernel_rfl
theorem ty_40 : tyD Try.prog 40 = some (true, 4) := by kernel_rfl
theorem zc_38 : zeroC Try.prog 38 = some [.iv (.g (.int .i64 0)), .iv (.g (.int .i64 0))] := by kernel_rfl
theorem zc_40 : zeroC Try.prog 40 = some [.iv (.g (.int .i64 0)), .iv (.g (.int .i64 0)), .iv (.g (.int .i64 0)), .iv (.g (.int .i64 0))] := by kernel_rfl

def sv (l u : Int) : Bool := decide (-1000000000000 ≤ l ∧ l ≤ u ∧ u ≤ 1000000000000)
def vbox (a b c d : Int) : Bool := decide ((-1000000 ≤ a ∧ a ≤ b ∧ b ≤ 1000000) ∧ (-1000000 ≤ c ∧ c ≤ d ∧ d ≤ 1000000))
def offB (n : Int) : Bool := decide (1 ≤ n ∧ n ≤ 20)
def soundB (o a b c d : Int) : Bool := decide ((1 ≤ o ∧ o ≤ 20) ∧ (-1000000 ≤ a ∧ a < b ∧ b ≤ 1000000) ∧ (-1000000 ≤ c ∧ c < d ∧ d ≤ 1000000))
def hasB (a b c d x y : Int) : Bool := decide ((a ≤ x ∧ x ≤ b) ∧ (c ≤ y ∧ y ≤ d))
def inB (a b c d x y : Int) : Bool := decide ((a < x ∧ x < b) ∧ (c < y ∧ y < d))
def jE (s0 s1 t0 t1 : Int) : Int := bif sv s0 s1 && sv t0 t1 then 0 else 1
def jL (s0 s1 t0 t1 : Int) : Int := bif sv s0 s1 && sv t0 t1 then min s0 t0 else 0
def jH (s0 s1 t0 t1 : Int) : Int := bif sv s0 s1 && sv t0 t1 then max s1 t1 else 0
def mE (s0 s1 t0 t1 : Int) : Int := bif sv s0 s1 && sv t0 t1 then (bif decide (min s1 t1 < max s0 t0) then 4 else 0) else 1
def mL (s0 s1 t0 t1 : Int) : Int := bif sv s0 s1 && sv t0 t1 && !decide (min s1 t1 < max s0 t0) then max s0 t0 else 0
def mH (s0 s1 t0 t1 : Int) : Int := bif sv s0 s1 && sv t0 t1 && !decide (min s1 t1 < max s0 t0) then min s1 t1 else 0
def insB (a b c d a' b' c' d' : Int) : Bool := vbox a b c d && vbox a' b' c' d' && decide (max a a' < min b b' ∧ max c c' < min d d')
def mbV (a b c d a' b' c' d' : Int) : Bool := vbox a b c d && vbox a' b' c' d'
def mbN (a b c d a' b' c' d' : Int) : Bool := decide (min b b' < max a a' ∨ min d d' < max c c')
def mbE (a b c d a' b' c' d' : Int) : Int := bif mbV a b c d a' b' c' d' then (bif mbN a b c d a' b' c' d' then 4 else 0) else 1
def mbx (e x : Int) : Int := if e = 0 then x else 0
theorem sv_t {l u : Int} (h : -1000000000000 ≤ l ∧ l ≤ u ∧ u ≤ 1000000000000) : sv l u = true := decide_eq_true h
theorem sv_M : sv (-1000000) 1000000 = true := by decide
theorem jE_01 (a b c d : Int) : (sv a b = true ∧ sv c d = true ∧ jE a b c d = 0 ∧ jL a b c d = min a c ∧ jH a b c d = max b d) ∨ ((sv a b = false ∨ sv c d = false) ∧ jE a b c d = 1 ∧ jL a b c d = 0 ∧ jH a b c d = 0) := by
  unfold jE jL jH
  cases h1 : sv a b <;> cases h2 : sv c d <;> simp
theorem vbox_d (a b c d : Int) : vbox a b c d = true ↔ ((-1000000 ≤ a ∧ a ≤ b ∧ b ≤ 1000000) ∧ (-1000000 ≤ c ∧ c ≤ d ∧ d ≤ 1000000)) := decide_eq_true_iff

set_option maxRecDepth 100000 in
set_option maxHeartbeats 4000000 in
theorem office_p (n : Int) : CallsP Try.prog 43 [.one (.g (.int .i64 (n)))] (.t (.one (.g (.bool (offB n))))) := by
  refine CallsP_of Try.func43 rfl (by rw [Try.ntmps43]; simp) ?_
  simp only [Try.ntmps43, List.map_cons, List.map_nil, PT.tv, argEnv, Nat.zero_add, Nat.reduceAdd]
  repeat' (first
    | (with_reducible refine AW_seq_k fun K hK => ?_)
    | ((first | (with_reducible refine And.intro ?_ ?_) | (with_reducible refine Need.mk ?_)); focus (first | exact True.intro | (with_reducible assumption) | omega | (refine ⟨?_, ?_⟩ <;> omega) | (intro _; first | exact True.intro | (with_reducible assumption) | omega) | (intros; (repeat' (first | exact True.intro | omega | (with_reducible assumption) | (with_reducible refine And.intro ?_ ?_))); done) | (simp (disch := omega) only [Bool.and_eq_true, Bool.or_eq_true, decide_eq_true_eq, bne_iff_ne, ne_eq] at *; first | done | omega | (intros; omega)) | (simp; done) | (simp; omega) | (simp +contextual; done) | (intro h; rw [h]; rfl) | (intros; simp_all; done)))
    | (with_reducible refine AW_skip ?_)
    | (with_reducible refine AW_exit ?_)
    | (with_reducible refine AW_ret ?_)
    | (with_reducible refine retK_n ?_)
    | (with_reducible refine retK_n' ?_)
    | (with_reducible refine retH_n rfl rfl rfl ?_)
    | (with_reducible refine retH_n' rfl rfl rfl ?_)
    | (with_reducible refine AW_condI ?_)
    | (with_reducible refine AW_block ?_)
    | ((with_reducible refine condN_t ?_ ?_) <;> (intro hc; (try simp only [Bool.and_eq_true, Bool.or_eq_true, Bool.not_eq_true', Bool.and_eq_false_iff, Bool.or_eq_false_iff, decide_eq_true_eq, decide_eq_false_iff_not, bne_iff_ne, beq_iff_eq, reduceCtorEq, bne_eq_false_iff_eq, beq_eq_false_iff_ne, Bool.not_eq_false', Int.not_le, Int.not_lt, Bool.not_not] at hc); (try (exfalso; first | contradiction | omega))))
    | (with_reducible refine AW_regionP 0 [0] ?_)
    | (with_reducible refine AW_regionP 1 [0] ?_)
    | ((fail_if_success (with_reducible show AW _ _ _ _)); simp (maxSteps := 2000000) only [go_sem, reduceIte, reduceCtorEq, Nat.reduceAdd, Nat.reduceLT, Nat.reduceLeDiff, Nat.reduceEqDiff, Nat.reduceMul, Nat.reduceSub, Nat.reduceBEq, Try.f43, offB])
    | ((with_reducible refine hK _ ?_); clear hK K))
  all_goals (first | (try refine Bool.eq_iff_iff.2 ?_); (simp only [Bool.and_eq_true, Bool.or_eq_true, Bool.not_eq_true', decide_eq_true_eq, decide_eq_false_iff_not, bne_iff_ne, beq_iff_eq, ne_eq, ge_iff_le, gt_iff_lt, cond_eq_ite, iff_self, eq_self]; first | done | omega) | skip)

set_option maxRecDepth 100000 in
set_option maxHeartbeats 4000000 in
theorem sValid_p (a b : Int) : CallsP Try.prog 58 [.agg [.g (.int .i64 (a)), .g (.int .i64 (b))]] (.t (.one (.g (.bool (sv a b))))) := by
  refine CallsP_of Try.func58 rfl (by rw [Try.ntmps58]; simp) ?_
  simp only [Try.ntmps58, List.map_cons, List.map_nil, PT.tv, argEnv, Nat.zero_add, Nat.reduceAdd]
  repeat' (first
    | (with_reducible refine AW_seq_k fun K hK => ?_)
    | ((first | (with_reducible refine And.intro ?_ ?_) | (with_reducible refine Need.mk ?_)); focus (first | exact True.intro | (with_reducible assumption) | omega | (refine ⟨?_, ?_⟩ <;> omega) | (intro _; first | exact True.intro | (with_reducible assumption) | omega) | (intros; (repeat' (first | exact True.intro | omega | (with_reducible assumption) | (with_reducible refine And.intro ?_ ?_))); done) | (simp (disch := omega) only [Bool.and_eq_true, Bool.or_eq_true, decide_eq_true_eq, bne_iff_ne, ne_eq] at *; first | done | omega | (intros; omega)) | (simp; done) | (simp; omega) | (simp +contextual; done) | (intro h; rw [h]; rfl) | (intros; simp_all; done)))
    | (with_reducible refine AW_skip ?_)
    | (with_reducible refine AW_exit ?_)
    | (with_reducible refine AW_ret ?_)
    | (with_reducible refine retK_n ?_)
    | (with_reducible refine retK_n' ?_)
    | (with_reducible refine retH_n rfl rfl rfl ?_)
    | (with_reducible refine retH_n' rfl rfl rfl ?_)
    | (with_reducible refine AW_condI ?_)
    | (with_reducible refine AW_block ?_)
    | ((with_reducible refine condN_t ?_ ?_) <;> (intro hc; (try simp only [Bool.and_eq_true, Bool.or_eq_true, Bool.not_eq_true', Bool.and_eq_false_iff, Bool.or_eq_false_iff, decide_eq_true_eq, decide_eq_false_iff_not, bne_iff_ne, beq_iff_eq, reduceCtorEq, bne_eq_false_iff_eq, beq_eq_false_iff_ne, Bool.not_eq_false', Int.not_le, Int.not_lt, Bool.not_not] at hc); (try (exfalso; first | contradiction | omega))))
    | (with_reducible refine AW_regionP 0 [0] ?_)
    | (with_reducible refine AW_regionP 1 [1] ?_)
    | ((fail_if_success (with_reducible show AW _ _ _ _)); simp (maxSteps := 2000000) only [go_sem, reduceIte, reduceCtorEq, Nat.reduceAdd, Nat.reduceLT, Nat.reduceLeDiff, Nat.reduceEqDiff, Nat.reduceMul, Nat.reduceSub, Nat.reduceBEq, Try.f58, of_38_0, ty_3, of_38_1, sv])
    | ((with_reducible refine hK _ ?_); clear hK K))
  all_goals (first | (try refine Bool.eq_iff_iff.2 ?_); (simp only [Bool.and_eq_true, Bool.or_eq_true, Bool.not_eq_true', decide_eq_true_eq, decide_eq_false_iff_not, bne_iff_ne, beq_iff_eq, ne_eq, ge_iff_le, gt_iff_lt, cond_eq_ite, iff_self, eq_self]; first | done | omega) | skip)

set_option maxRecDepth 100000 in
set_option maxHeartbeats 4000000 in
theorem ends_p (a b : Int) : CallsP Try.prog 59 [.one (.g (.int .i64 (a))), .one (.g (.int .i64 (b)))] (.tup [.one (.g (.int .i64 (min a b))), .one (.g (.int .i64 (max a b)))]) := by
  refine CallsP_of Try.func59 rfl (by rw [Try.ntmps59]; simp) ?_
  simp only [Try.ntmps59, List.map_cons, List.map_nil, PT.tv, argEnv, Nat.zero_add, Nat.reduceAdd]
  repeat' (first
    | (with_reducible refine AW_seq_k fun K hK => ?_)
    | ((first | (with_reducible refine And.intro ?_ ?_) | (with_reducible refine Need.mk ?_)); focus (first | exact True.intro | (with_reducible assumption) | omega | (refine ⟨?_, ?_⟩ <;> omega) | (intro _; first | exact True.intro | (with_reducible assumption) | omega) | (intros; (repeat' (first | exact True.intro | omega | (with_reducible assumption) | (with_reducible refine And.intro ?_ ?_))); done) | (simp (disch := omega) only [Bool.and_eq_true, Bool.or_eq_true, decide_eq_true_eq, bne_iff_ne, ne_eq] at *; first | done | omega | (intros; omega)) | (simp; done) | (simp; omega) | (simp +contextual; done) | (intro h; rw [h]; rfl) | (intros; simp_all; done)))
    | (with_reducible refine AW_skip ?_)
    | (with_reducible refine AW_exit ?_)
    | (with_reducible refine AW_ret ?_)
    | (with_reducible refine retK_n ?_)
    | (with_reducible refine retK_n' ?_)
    | (with_reducible refine retH_n rfl rfl rfl ?_)
    | (with_reducible refine retH_n' rfl rfl rfl ?_)
    | (with_reducible refine AW_condI ?_)
    | (with_reducible refine AW_block ?_)
    | ((with_reducible refine condN_t ?_ ?_) <;> (intro hc; (try simp only [Bool.and_eq_true, Bool.or_eq_true, Bool.not_eq_true', Bool.and_eq_false_iff, Bool.or_eq_false_iff, decide_eq_true_eq, decide_eq_false_iff_not, bne_iff_ne, beq_iff_eq, reduceCtorEq, bne_eq_false_iff_eq, beq_eq_false_iff_ne, Bool.not_eq_false', Int.not_le, Int.not_lt, Bool.not_not] at hc); (try (exfalso; first | contradiction | omega))))
    | (with_reducible refine AW_regionP 0 [0, 1] ?_)
    | (with_reducible refine AW_regionP 1 [0, 1] ?_)
    | ((fail_if_success (with_reducible show AW _ _ _ _)); simp (maxSteps := 2000000) only [go_sem, reduceIte, reduceCtorEq, Nat.reduceAdd, Nat.reduceLT, Nat.reduceLeDiff, Nat.reduceEqDiff, Nat.reduceMul, Nat.reduceSub, Nat.reduceBEq, Try.f59])
    | ((with_reducible refine hK _ ?_); clear hK K))
  all_goals (first | omega | skip)

set_option maxRecDepth 100000 in
set_option maxHeartbeats 4000000 in
theorem join_p (a b c d : Int) : CallsP Try.prog 49 [.agg [.g (.int .i64 (a)), .g (.int .i64 (b))], .agg [.g (.int .i64 (c)), .g (.int .i64 (d))]] (.tup [.agg [.g (.int .i64 (jL a b c d)), .g (.int .i64 (jH a b c d))], .one (.g (.int .i64 (jE a b c d)))]) := by
  refine CallsP_of Try.func49 rfl (by rw [Try.ntmps49]; simp) ?_
  simp only [Try.ntmps49, List.map_cons, List.map_nil, PT.tv, argEnv, Nat.zero_add, Nat.reduceAdd]
  repeat' (first
    | (with_reducible refine AW_seq_k fun K hK => ?_)
    | ((first | (with_reducible refine And.intro ?_ ?_) | (with_reducible refine Need.mk ?_)); focus (first | exact True.intro | (with_reducible assumption) | omega | (refine ⟨?_, ?_⟩ <;> omega) | (intro _; first | exact True.intro | (with_reducible assumption) | omega) | (intros; (repeat' (first | exact True.intro | omega | (with_reducible assumption) | (with_reducible refine And.intro ?_ ?_))); done) | (simp (disch := omega) only [Bool.and_eq_true, Bool.or_eq_true, decide_eq_true_eq, bne_iff_ne, ne_eq] at *; first | done | omega | (intros; omega)) | (simp; done) | (simp; omega) | (simp +contextual; done) | (intro h; rw [h]; rfl) | (intros; simp_all; done)))
    | (with_reducible refine AW_skip ?_)
    | (with_reducible refine AW_exit ?_)
    | (with_reducible refine AW_ret ?_)
    | (with_reducible refine retK_n ?_)
    | (with_reducible refine retK_n' ?_)
    | (with_reducible refine retH_n rfl rfl rfl ?_)
    | (with_reducible refine retH_n' rfl rfl rfl ?_)
    | (with_reducible refine AW_condI ?_)
    | (with_reducible refine AW_block ?_)
    | ((with_reducible refine condN_t ?_ ?_) <;> (intro hc; (try simp only [Bool.and_eq_true, Bool.or_eq_true, Bool.not_eq_true', Bool.and_eq_false_iff, Bool.or_eq_false_iff, decide_eq_true_eq, decide_eq_false_iff_not, bne_iff_ne, beq_iff_eq, reduceCtorEq, bne_eq_false_iff_eq, beq_eq_false_iff_ne, Bool.not_eq_false', Int.not_le, Int.not_lt, Bool.not_not] at hc); (try (exfalso; first | contradiction | omega))))
    | (with_reducible refine AW_regionP 0 [0, 1] ?_)
    | (with_reducible refine AW_regionP 1 [2, 3, 4] ?_)
    | (with_reducible refine AW_regionP 2 [4] ?_)
    | (with_reducible refine AW_regionP 3 [2, 3, 4] ?_)
    | (with_reducible refine AW_regionP 4 [2, 3, 4, 6] ?_)
    | (with_reducible refine AW_regionP 5 [4, 6, 9] ?_)
    | (refine callN_q (k := 58) fnok_58 (sValid_p _ _) ?_ ?_)
    | (refine callGN_q (k := 58) fnok_58 (fun hg => sValid_p _ _) ?_ ?_)
    | (refine callN_q (k := 59) fnok_59 (ends_p _ _) ?_ ?_)
    | ((fail_if_success (with_reducible show AW _ _ _ _)); simp (maxSteps := 2000000) only [go_sem, reduceIte, reduceCtorEq, Nat.reduceAdd, Nat.reduceLT, Nat.reduceLeDiff, Nat.reduceEqDiff, Nat.reduceMul, Nat.reduceSub, Nat.reduceBEq, Try.f49, zc_38, ty_38, fnok_58, fo_38, of_38_0, ty_3, fnok_59, of_38_1, pl_38_0, pl_38_1])
    | ((with_reducible refine hK _ ?_); clear hK K))
  all_goals (rcases jE_01 a b c d with ⟨h1, h2, h3, h4, h5⟩ | ⟨h1, h3, h4, h5⟩ <;> rw [h3, h4, h5] <;> simp_all [sv] <;> omega)

def wiB (s0 s1 t0 t1 : Int) : Bool := sv s0 s1 && sv t0 t1 && decide (t0 ≤ s0 ∧ s1 ≤ t1)
theorem mE_c (a b c d : Int) : ((sv a b = false ∨ sv c d = false) ∧ mE a b c d = 1 ∧ mL a b c d = 0 ∧ mH a b c d = 0) ∨ (sv a b = true ∧ sv c d = true ∧ min b d < max a c ∧ mE a b c d = 4 ∧ mL a b c d = 0 ∧ mH a b c d = 0) ∨ (sv a b = true ∧ sv c d = true ∧ max a c ≤ min b d ∧ mE a b c d = 0 ∧ mL a b c d = max a c ∧ mH a b c d = min b d) := by
  unfold mE mL mH
  cases h1 : sv a b <;> cases h2 : sv c d <;> simp
  by_cases k : min b d < max a c
  · left; simp [k]
  · right; simp [k]; omega
theorem vbox_c (a b c d : Int) : (vbox a b c d = true ∧ (-1000000 ≤ a ∧ a ≤ b ∧ b ≤ 1000000) ∧ (-1000000 ≤ c ∧ c ≤ d ∧ d ≤ 1000000) ∧ sv a b = true ∧ sv c d = true) ∨ (vbox a b c d = false ∧ ¬ ((-1000000 ≤ a ∧ a ≤ b ∧ b ≤ 1000000) ∧ (-1000000 ≤ c ∧ c ≤ d ∧ d ≤ 1000000))) := by
  cases h : vbox a b c d with
  | true => have := (vbox_d a b c d).1 h; exact Or.inl ⟨rfl, this.1, this.2, sv_t (by omega), sv_t (by omega)⟩
  | false => exact Or.inr ⟨rfl, of_decide_eq_false h⟩

set_option maxRecDepth 100000 in
set_option maxHeartbeats 4000000 in
theorem within_p (a b c d : Int) : CallsP Try.prog 40 [.agg [.g (.int .i64 (a)), .g (.int .i64 (b))], .agg [.g (.int .i64 (c)), .g (.int .i64 (d))]] (.tup [.one (.g (.bool (wiB a b c d))), .one (.g (.int .i64 (jE a b c d)))]) := by
  refine CallsP_of Try.func40 rfl (by rw [Try.ntmps40]; simp) ?_
  simp only [Try.ntmps40, List.map_cons, List.map_nil, PT.tv, argEnv, Nat.zero_add, Nat.reduceAdd]
  repeat' (first
    | (with_reducible refine AW_seq_k fun K hK => ?_)
    | ((first | (with_reducible refine And.intro ?_ ?_) | (with_reducible refine Need.mk ?_)); focus (first | exact True.intro | (with_reducible assumption) | omega | (refine ⟨?_, ?_⟩ <;> omega) | (intro _; first | exact True.intro | (with_reducible assumption) | omega) | (intros; (repeat' (first | exact True.intro | omega | (with_reducible assumption) | (with_reducible refine And.intro ?_ ?_))); done) | (simp (disch := omega) only [Bool.and_eq_true, Bool.or_eq_true, decide_eq_true_eq, bne_iff_ne, ne_eq] at *; first | done | omega | (intros; omega)) | (simp; done) | (simp; omega) | (simp +contextual; done) | (intro h; rw [h]; rfl) | (intros; simp_all; done)))
    | (with_reducible refine AW_skip ?_)
    | (with_reducible refine AW_exit ?_)
    | (with_reducible refine AW_ret ?_)
    | (with_reducible refine retK_n ?_)
    | (with_reducible refine retK_n' ?_)
    | (with_reducible refine retH_n rfl rfl rfl ?_)
    | (with_reducible refine retH_n' rfl rfl rfl ?_)
    | (with_reducible refine AW_condI ?_)
    | (with_reducible refine AW_block ?_)
    | ((with_reducible refine condN_t ?_ ?_) <;> (intro hc; (try simp only [Bool.and_eq_true, Bool.or_eq_true, Bool.not_eq_true', Bool.and_eq_false_iff, Bool.or_eq_false_iff, decide_eq_true_eq, decide_eq_false_iff_not, bne_iff_ne, beq_iff_eq, reduceCtorEq, bne_eq_false_iff_eq, beq_eq_false_iff_ne, Bool.not_eq_false', Int.not_le, Int.not_lt, Bool.not_not] at hc); (try (exfalso; first | contradiction | omega))))
    | (with_reducible refine AW_regionP 0 [0, 1] ?_)
    | (with_reducible refine AW_regionP 1 [2, 3] ?_)
    | (with_reducible refine AW_regionP 2 [3, 6, 7] ?_)
    | (refine callN_q (k := 49) fnok_49 (join_p _ _ _ _) ?_ ?_)
    | ((fail_if_success (with_reducible show AW _ _ _ _)); simp (maxSteps := 2000000) only [go_sem, reduceIte, reduceCtorEq, Nat.reduceAdd, Nat.reduceLT, Nat.reduceLeDiff, Nat.reduceEqDiff, Nat.reduceMul, Nat.reduceSub, Nat.reduceBEq, Try.f40, ty_38, fnok_49, zc_38, bo_38, eq_38])
    | ((with_reducible refine hK _ ?_); clear hK K))
  all_goals
    rcases jE_01 a b c d with ⟨h1, h2, h3, h4, h5⟩ | ⟨h1, h3, h4, h5⟩
    · rw [h3, h4, h5]; unfold wiB; rw [h1, h2]; refine Bool.eq_iff_iff.2 ?_; simp; omega
    · rw [h3]; unfold wiB; rcases h1 with h1 | h1 <;> simp [h1]

set_option maxRecDepth 100000 in
set_option maxHeartbeats 4000000 in
theorem vbox_p (a b c d : Int) : CallsP Try.prog 26 [.agg [.g (.int .i64 (a)), .g (.int .i64 (b)), .g (.int .i64 (c)), .g (.int .i64 (d))]] (.t (.one (.g (.bool (vbox a b c d))))) := by
  refine CallsP_of Try.func26 rfl (by rw [Try.ntmps26]; simp) ?_
  simp only [Try.ntmps26, List.map_cons, List.map_nil, PT.tv, argEnv, Nat.zero_add, Nat.reduceAdd]
  repeat' (first
    | (with_reducible refine AW_seq_k fun K hK => ?_)
    | ((first | (with_reducible refine And.intro ?_ ?_) | (with_reducible refine Need.mk ?_)); focus (first | exact True.intro | (with_reducible assumption) | omega | (refine ⟨?_, ?_⟩ <;> omega) | (intro _; first | exact True.intro | (with_reducible assumption) | omega) | (intros; (repeat' (first | exact True.intro | omega | (with_reducible assumption) | (with_reducible refine And.intro ?_ ?_))); done) | (simp (disch := omega) only [Bool.and_eq_true, Bool.or_eq_true, decide_eq_true_eq, bne_iff_ne, ne_eq] at *; first | done | omega | (intros; omega)) | (simp; done) | (simp; omega) | (simp +contextual; done) | (intro h; rw [h]; rfl) | (intros; simp_all; done)))
    | (with_reducible refine AW_skip ?_)
    | (with_reducible refine AW_exit ?_)
    | (with_reducible refine AW_ret ?_)
    | (with_reducible refine retK_n ?_)
    | (with_reducible refine retK_n' ?_)
    | (with_reducible refine retH_n rfl rfl rfl ?_)
    | (with_reducible refine retH_n' rfl rfl rfl ?_)
    | (with_reducible refine AW_condI ?_)
    | (with_reducible refine AW_block ?_)
    | ((with_reducible refine condN_t ?_ ?_) <;> (intro hc; (try simp only [Bool.and_eq_true, Bool.or_eq_true, Bool.not_eq_true', Bool.and_eq_false_iff, Bool.or_eq_false_iff, decide_eq_true_eq, decide_eq_false_iff_not, bne_iff_ne, beq_iff_eq, reduceCtorEq, bne_eq_false_iff_eq, beq_eq_false_iff_ne, Bool.not_eq_false', Int.not_le, Int.not_lt, Bool.not_not] at hc); (skip); (try (exfalso; first | contradiction | omega))))
    | (with_reducible refine AW_regionP 0 [0] ?_)
    | (with_reducible refine AW_regionP 1 [1] ?_)
    | (with_reducible refine AW_regionP 2 [1, 3] ?_)
    | (with_reducible refine AW_regionP 3 [1, 3, 4, 5] ?_)
    | (with_reducible refine AW_regionP 4 [4, 5, 6, 7] ?_)
    | (refine callN_q (k := 40) fnok_40 (within_p _ _ _ _) ?_ ?_)
    | ((fail_if_success (with_reducible show AW _ _ _ _)); simp (maxSteps := 2000000) only [go_sem, reduceIte, reduceCtorEq, Nat.reduceAdd, Nat.reduceLT, Nat.reduceLeDiff, Nat.reduceEqDiff, Nat.reduceMul, Nat.reduceSub, Nat.reduceBEq, Try.f26, zc_38, fo_38, pl_38_0, pl_38_1, ty_38, of_40_0, fnok_40, of_40_1])
    | ((with_reducible refine hK _ ?_); clear hK K))
  all_goals
    unfold wiB; rw [sv_M]
    rcases jE_01 a b (-1000000) 1000000 with ⟨h1, h2, h3, h4, h5⟩ | ⟨h1, h3, h4, h5⟩
    · rcases jE_01 c d (-1000000) 1000000 with ⟨k1, k2, k3, k4, k5⟩ | ⟨k1, k3, k4, k5⟩
      · have e1 := of_decide_eq_true h1
        have e2 := of_decide_eq_true k1
        rw [h3, k3, h1, k1]; refine Bool.eq_iff_iff.2 ?_; rw [vbox_d]; simp; omega
      · rcases vbox_c a b c d with ⟨v, v1, v2, v3, v4⟩ | ⟨v, v1⟩
        · rw [v4, sv_M] at k1; simp at k1
        · rw [v, k3]; simp
    · rcases vbox_c a b c d with ⟨v, v1, v2, v3, v4⟩ | ⟨v, v1⟩
      · rw [v3, sv_M] at h1; simp at h1
      · rw [v, h3]; simp

set_option maxRecDepth 100000 in
set_option maxHeartbeats 4000000 in
theorem meet_p (a b c d : Int) : CallsP Try.prog 48 [.agg [.g (.int .i64 (a)), .g (.int .i64 (b))], .agg [.g (.int .i64 (c)), .g (.int .i64 (d))]] (.tup [.agg [.g (.int .i64 (mL a b c d)), .g (.int .i64 (mH a b c d))], .one (.g (.int .i64 (mE a b c d)))]) := by
  refine CallsP_of Try.func48 rfl (by rw [Try.ntmps48]; simp) ?_
  simp only [Try.ntmps48, List.map_cons, List.map_nil, PT.tv, argEnv, Nat.zero_add, Nat.reduceAdd]
  repeat' (first
    | (with_reducible refine AW_seq_k fun K hK => ?_)
    | ((first | (with_reducible refine And.intro ?_ ?_) | (with_reducible refine Need.mk ?_)); focus (first | exact True.intro | (with_reducible assumption) | omega | (refine ⟨?_, ?_⟩ <;> omega) | (intro _; first | exact True.intro | (with_reducible assumption) | omega) | (intros; (repeat' (first | exact True.intro | omega | (with_reducible assumption) | (with_reducible refine And.intro ?_ ?_))); done) | (simp (disch := omega) only [Bool.and_eq_true, Bool.or_eq_true, decide_eq_true_eq, bne_iff_ne, ne_eq] at *; first | done | omega | (intros; omega)) | (simp; done) | (simp; omega) | (simp +contextual; done) | (intro h; rw [h]; rfl) | (intros; simp_all; done)))
    | (with_reducible refine AW_skip ?_)
    | (with_reducible refine AW_exit ?_)
    | (with_reducible refine AW_ret ?_)
    | (with_reducible refine retK_n ?_)
    | (with_reducible refine retK_n' ?_)
    | (with_reducible refine retH_n rfl rfl rfl ?_)
    | (with_reducible refine retH_n' rfl rfl rfl ?_)
    | (with_reducible refine AW_condI ?_)
    | (with_reducible refine AW_block ?_)
    | ((with_reducible refine condN_t ?_ ?_) <;> (intro hc; (try simp only [Bool.and_eq_true, Bool.or_eq_true, Bool.not_eq_true', Bool.and_eq_false_iff, Bool.or_eq_false_iff, decide_eq_true_eq, decide_eq_false_iff_not, bne_iff_ne, beq_iff_eq, reduceCtorEq, bne_eq_false_iff_eq, beq_eq_false_iff_ne, Bool.not_eq_false', Int.not_le, Int.not_lt, Bool.not_not] at hc); (skip); (try (exfalso; first | contradiction | omega))))
    | (with_reducible refine AW_regionP 0 [0, 1] ?_)
    | (with_reducible refine AW_regionP 1 [2, 3, 4] ?_)
    | (with_reducible refine AW_regionP 2 [4] ?_)
    | (with_reducible refine AW_regionP 3 [2, 3, 4] ?_)
    | (with_reducible refine AW_regionP 4 [4, 6] ?_)
    | (with_reducible refine AW_regionP 5 [4] ?_)
    | (with_reducible refine AW_regionP 6 [4, 6] ?_)
    | (refine callN_q (k := 58) fnok_58 (sValid_p _ _) ?_ ?_)
    | (refine callGN_q (k := 58) fnok_58 (fun hg => sValid_p _ _) ?_ ?_)
    | ((fail_if_success (with_reducible show AW _ _ _ _)); simp (maxSteps := 2000000) only [go_sem, reduceIte, reduceCtorEq, Nat.reduceAdd, Nat.reduceLT, Nat.reduceLeDiff, Nat.reduceEqDiff, Nat.reduceMul, Nat.reduceSub, Nat.reduceBEq, Try.f48, zc_38, ty_38, fnok_58, fo_38, of_38_0, ty_3, of_38_1, pl_38_0, pl_38_1])
    | ((with_reducible refine hK _ ?_); clear hK K))
  all_goals (rcases mE_c a b c d with ⟨h1, h3, h4, h5⟩ | ⟨h1, h2, h6, h3, h4, h5⟩ | ⟨h1, h2, h6, h3, h4, h5⟩ <;> rw [h3, h4, h5] <;> simp_all <;> omega)

theorem mbE_c (a b c d a' b' c' d' : Int) : ((vbox a b c d = false ∨ vbox a' b' c' d' = false) ∧ mbE a b c d a' b' c' d' = 1) ∨ (vbox a b c d = true ∧ vbox a' b' c' d' = true ∧ (sv a b = true ∧ sv a' b' = true ∧ sv c d = true ∧ sv c' d' = true) ∧ ((min b b' < max a a' ∨ min d d' < max c c') ∧ mbE a b c d a' b' c' d' = 4 ∨ (max a a' ≤ min b b' ∧ max c c' ≤ min d d') ∧ mbE a b c d a' b' c' d' = 0)) := by
  unfold mbE mbV mbN
  rcases vbox_c a b c d with ⟨v, v1, v2, v3, v4⟩ | ⟨v, v1⟩
  · rcases vbox_c a' b' c' d' with ⟨u, u1, u2, u3, u4⟩ | ⟨u, u1⟩
    · rw [v, u]
      by_cases k : min b b' < max a a' ∨ min d d' < max c c'
      · exact Or.inr ⟨rfl, rfl, ⟨v3, u3, v4, u4⟩, Or.inl ⟨k, by rw [decide_eq_true k]; rfl⟩⟩
      · exact Or.inr ⟨rfl, rfl, ⟨v3, u3, v4, u4⟩, Or.inr ⟨by omega, by rw [decide_eq_false k]; rfl⟩⟩
    · rw [v, u]; exact Or.inl ⟨Or.inr rfl, rfl⟩
  · rw [v]; exact Or.inl ⟨Or.inl rfl, by simp⟩

set_option maxRecDepth 100000 in
set_option maxHeartbeats 4000000 in
theorem boxes_p (a b c d a' b' c' d' : Int) : CallsP Try.prog 47 [.agg [.g (.int .i64 (a)), .g (.int .i64 (b)), .g (.int .i64 (c)), .g (.int .i64 (d))], .agg [.g (.int .i64 (a')), .g (.int .i64 (b')), .g (.int .i64 (c')), .g (.int .i64 (d'))], .one (.g (.func (.func 48) #[] #[]))] (.tup [.agg [.g (.int .i64 (mbx (mbE a b c d a' b' c' d') (max a a'))), .g (.int .i64 (mbx (mbE a b c d a' b' c' d') (min b b'))), .g (.int .i64 (mbx (mbE a b c d a' b' c' d') (max c c'))), .g (.int .i64 (mbx (mbE a b c d a' b' c' d') (min d d')))], .one (.g (.int .i64 (mbE a b c d a' b' c' d')))]) := by
  refine CallsP_of Try.func47 rfl (by rw [Try.ntmps47]; simp) ?_
  simp only [Try.ntmps47, List.map_cons, List.map_nil, PT.tv, argEnv, Nat.zero_add, Nat.reduceAdd]
  repeat' (first
    | (with_reducible refine AW_seq_k fun K hK => ?_)
    | ((first | (with_reducible refine And.intro ?_ ?_) | (with_reducible refine Need.mk ?_)); focus (first | exact True.intro | (with_reducible assumption) | omega | (refine ⟨?_, ?_⟩ <;> omega) | (intro _; first | exact True.intro | (with_reducible assumption) | omega) | (intros; (repeat' (first | exact True.intro | omega | (with_reducible assumption) | (with_reducible refine And.intro ?_ ?_))); done) | (simp (disch := omega) only [Bool.and_eq_true, Bool.or_eq_true, decide_eq_true_eq, bne_iff_ne, ne_eq] at *; first | done | omega | (intros; omega)) | (simp; done) | (simp; omega) | (simp +contextual; done) | (intro h; rw [h]; rfl) | (intros; simp_all; done)))
    | (with_reducible refine AW_skip ?_)
    | (with_reducible refine AW_exit ?_)
    | (with_reducible refine AW_ret ?_)
    | (with_reducible refine retK_n ?_)
    | (with_reducible refine retK_n' ?_)
    | (with_reducible refine retH_n rfl rfl rfl ?_)
    | (with_reducible refine retH_n' rfl rfl rfl ?_)
    | (with_reducible refine AW_condI ?_)
    | (with_reducible refine AW_block ?_)
    | ((with_reducible refine condN_t ?_ ?_) <;> (intro hc; (try simp only [Bool.and_eq_true, Bool.or_eq_true, Bool.not_eq_true', Bool.and_eq_false_iff, Bool.or_eq_false_iff, decide_eq_true_eq, decide_eq_false_iff_not, bne_iff_ne, beq_iff_eq, reduceCtorEq, bne_eq_false_iff_eq, beq_eq_false_iff_ne, Bool.not_eq_false', Int.not_le, Int.not_lt, Bool.not_not] at hc); (skip); (try (exfalso; first | contradiction | omega))))
    | (with_reducible refine AW_regionP 0 [0, 1, 2] ?_)
    | (with_reducible refine AW_regionP 1 [2, 3, 4, 6] ?_)
    | (with_reducible refine AW_regionP 2 [6] ?_)
    | (with_reducible refine AW_regionP 3 [2, 3, 4, 6] ?_)
    | (with_reducible refine AW_regionP 4 [2, 3, 4, 6, 8, 9] ?_)
    | (with_reducible refine AW_regionP 5 [6, 8, 9, 10, 11] ?_)
    | (with_reducible refine AW_regionP 6 [6, 8, 9, 10] ?_)
    | (with_reducible refine AW_regionP 7 [6, 9] ?_)
    | (with_reducible refine AW_regionP 8 [6, 8, 10] ?_)
    | (refine callN_q (k := 26) fnok_26 (vbox_p _ _ _ _) ?_ ?_)
    | (refine callGN_q (k := 26) fnok_26 (fun hg => vbox_p _ _ _ _) ?_ ?_)
    | (refine callN_q (k := 48) fnok_48 (meet_p _ _ _ _) ?_ ?_)
    | (refine callDN_q (k := 48) fnok_48 (meet_p _ _ _ _) ?_ ?_)
    | (refine callDGN_q (k := 48) fnok_48 (fun hg => meet_p _ _ _ _) ?_ ?_)
    | (refine callGN_q (k := 48) fnok_48 (fun hg => meet_p _ _ _ _) ?_ ?_)
    | ((fail_if_success (with_reducible show AW _ _ _ _)); simp (maxSteps := 2000000) only [go_sem, reduceIte, reduceCtorEq, Nat.reduceAdd, Nat.reduceLT, Nat.reduceLeDiff, Nat.reduceEqDiff, Nat.reduceMul, Nat.reduceSub, Nat.reduceBEq, Try.f47, zc_40, ty_40, fnok_26, fo_40, of_40_0, ty_38, zc_38, of_40_1, pl_40_0, pl_40_1])
    | ((with_reducible refine hK _ ?_); clear hK K))
  all_goals
    rcases mbE_c a b c d a' b' c' d' with ⟨h1, h2⟩ | ⟨h1, h2, ⟨s1, s2, s3, s4⟩, ⟨h3, h4⟩ | ⟨h3, h4⟩⟩
    · first | (rw [h2]; exact ⟨⟨rfl, rfl, rfl, rfl⟩, rfl⟩) | (exfalso; rcases h1 with h1 | h1 <;> simp_all)
    all_goals
      rcases mE_c a b a' b' with ⟨k1, k3, k4, k5⟩ | ⟨k1, k2, k6, k3, k4, k5⟩ | ⟨k1, k2, k6, k3, k4, k5⟩
      · exfalso; rcases k1 with k1 | k1 <;> simp_all
      all_goals
        rcases mE_c c d c' d' with ⟨l1, l3, l4, l5⟩ | ⟨l1, l2, l6, l3, l4, l5⟩ | ⟨l1, l2, l6, l3, l4, l5⟩
        · exfalso; rcases l1 with l1 | l1 <;> simp_all
        all_goals (first | (exfalso; omega) | (exfalso; simp_all; done) | (rw [h4]; simp only [k3, k4, k5, l3, l4, l5, mbx]; first | exact ⟨⟨rfl, rfl, rfl, rfl⟩, rfl⟩ | (simp; done) | omega) | (simp_all [mbx]; done))

set_option maxRecDepth 100000 in
set_option maxHeartbeats 4000000 in
theorem meetbox_p (a b c d a' b' c' d' : Int) : CallsP Try.prog 39 [.agg [.g (.int .i64 (a)), .g (.int .i64 (b)), .g (.int .i64 (c)), .g (.int .i64 (d))], .agg [.g (.int .i64 (a')), .g (.int .i64 (b')), .g (.int .i64 (c')), .g (.int .i64 (d'))]] (.tup [.agg [.g (.int .i64 (mbx (mbE a b c d a' b' c' d') (max a a'))), .g (.int .i64 (mbx (mbE a b c d a' b' c' d') (min b b'))), .g (.int .i64 (mbx (mbE a b c d a' b' c' d') (max c c'))), .g (.int .i64 (mbx (mbE a b c d a' b' c' d') (min d d')))], .one (.g (.int .i64 (mbE a b c d a' b' c' d')))]) := by
  refine CallsP_of Try.func39 rfl (by rw [Try.ntmps39]; simp) ?_
  simp only [Try.ntmps39, List.map_cons, List.map_nil, PT.tv, argEnv, Nat.zero_add, Nat.reduceAdd]
  repeat' (first
    | (with_reducible refine AW_seq_k fun K hK => ?_)
    | ((first | (with_reducible refine And.intro ?_ ?_) | (with_reducible refine Need.mk ?_)); focus (first | exact True.intro | (with_reducible assumption) | omega | (refine ⟨?_, ?_⟩ <;> omega) | (intro _; first | exact True.intro | (with_reducible assumption) | omega) | (intros; (repeat' (first | exact True.intro | omega | (with_reducible assumption) | (with_reducible refine And.intro ?_ ?_))); done) | (simp (disch := omega) only [Bool.and_eq_true, Bool.or_eq_true, decide_eq_true_eq, bne_iff_ne, ne_eq] at *; first | done | omega | (intros; omega)) | (simp; done) | (simp; omega) | (simp +contextual; done) | (intro h; rw [h]; rfl) | (intros; simp_all; done)))
    | (with_reducible refine AW_skip ?_)
    | (with_reducible refine AW_exit ?_)
    | (with_reducible refine AW_ret ?_)
    | (with_reducible refine retK_n ?_)
    | (with_reducible refine retK_n' ?_)
    | (with_reducible refine retH_n rfl rfl rfl ?_)
    | (with_reducible refine retH_n' rfl rfl rfl ?_)
    | (with_reducible refine AW_condI ?_)
    | (with_reducible refine AW_block ?_)
    | ((with_reducible refine condN_t ?_ ?_) <;> (intro hc; (try simp only [Bool.and_eq_true, Bool.or_eq_true, Bool.not_eq_true', Bool.and_eq_false_iff, Bool.or_eq_false_iff, decide_eq_true_eq, decide_eq_false_iff_not, bne_iff_ne, beq_iff_eq, reduceCtorEq, bne_eq_false_iff_eq, beq_eq_false_iff_ne, Bool.not_eq_false', Int.not_le, Int.not_lt, Bool.not_not] at hc); (try (exfalso; first | contradiction | omega))))
    | (with_reducible refine AW_regionP 0 [0, 1] ?_)
    | (with_reducible refine AW_regionP 1 [2, 3, 4] ?_)
    | (refine callN_q (k := 47) fnok_47 (boxes_p _ _ _ _ _ _ _ _) ?_ ?_)
    | ((fail_if_success (with_reducible show AW _ _ _ _)); simp (maxSteps := 2000000) only [go_sem, reduceIte, reduceCtorEq, Nat.reduceAdd, Nat.reduceLT, Nat.reduceLeDiff, Nat.reduceEqDiff, Nat.reduceMul, Nat.reduceSub, Nat.reduceBEq, Try.f39, zc_40, ty_40, fnok_47])
    | ((with_reducible refine hK _ ?_); clear hK K))

set_option maxRecDepth 100000 in
set_option maxHeartbeats 4000000 in
theorem inside_p (a b c d a' b' c' d' : Int) : CallsP Try.prog 35 [.agg [.g (.int .i64 (a)), .g (.int .i64 (b)), .g (.int .i64 (c)), .g (.int .i64 (d))], .agg [.g (.int .i64 (a')), .g (.int .i64 (b')), .g (.int .i64 (c')), .g (.int .i64 (d'))]] (.t (.one (.g (.bool (insB a b c d a' b' c' d'))))) := by
  refine CallsP_of Try.func35 rfl (by rw [Try.ntmps35]; simp) ?_
  simp only [Try.ntmps35, List.map_cons, List.map_nil, PT.tv, argEnv, Nat.zero_add, Nat.reduceAdd]
  repeat' (first
    | (with_reducible refine AW_seq_k fun K hK => ?_)
    | ((first | (with_reducible refine And.intro ?_ ?_) | (with_reducible refine Need.mk ?_)); focus (first | exact True.intro | (with_reducible assumption) | omega | (refine ⟨?_, ?_⟩ <;> omega) | (intro _; first | exact True.intro | (with_reducible assumption) | omega) | (intros; (repeat' (first | exact True.intro | omega | (with_reducible assumption) | (with_reducible refine And.intro ?_ ?_))); done) | (simp (disch := omega) only [Bool.and_eq_true, Bool.or_eq_true, decide_eq_true_eq, bne_iff_ne, ne_eq] at *; first | done | omega | (intros; omega)) | (simp; done) | (simp; omega) | (simp +contextual; done) | (intro h; rw [h]; rfl) | (intros; simp_all; done)))
    | (with_reducible refine AW_skip ?_)
    | (with_reducible refine AW_exit ?_)
    | (with_reducible refine AW_ret ?_)
    | (with_reducible refine retK_n ?_)
    | (with_reducible refine retK_n' ?_)
    | (with_reducible refine retH_n rfl rfl rfl ?_)
    | (with_reducible refine retH_n' rfl rfl rfl ?_)
    | (with_reducible refine AW_condI ?_)
    | (with_reducible refine AW_block ?_)
    | ((with_reducible refine condN_t ?_ ?_) <;> (intro hc; (try simp only [Bool.and_eq_true, Bool.or_eq_true, Bool.not_eq_true', Bool.and_eq_false_iff, Bool.or_eq_false_iff, decide_eq_true_eq, decide_eq_false_iff_not, bne_iff_ne, beq_iff_eq, reduceCtorEq, bne_eq_false_iff_eq, beq_eq_false_iff_ne, Bool.not_eq_false', Int.not_le, Int.not_lt, Bool.not_not] at hc); (skip); (try (exfalso; first | contradiction | omega))))
    | (with_reducible refine AW_regionP 0 [0, 1] ?_)
    | (with_reducible refine AW_regionP 1 [2, 3] ?_)
    | (with_reducible refine AW_regionP 2 [5, 6] ?_)
    | (refine callN_q (k := 39) fnok_39 (meetbox_p _ _ _ _ _ _ _ _) ?_ ?_)
    | ((fail_if_success (with_reducible show AW _ _ _ _)); simp (maxSteps := 2000000) only [go_sem, reduceIte, reduceCtorEq, Nat.reduceAdd, Nat.reduceLT, Nat.reduceLeDiff, Nat.reduceEqDiff, Nat.reduceMul, Nat.reduceSub, Nat.reduceBEq, Try.f35, ty_40, fnok_39, zc_40, of_40_0, of_38_0, ty_3, of_38_1, of_40_1])
    | ((with_reducible refine hK _ ?_); clear hK K))
  all_goals
    unfold insB; rcases mbE_c a b c d a' b' c' d' with ⟨h1, h2⟩ | ⟨h1, h2, ⟨s1, s2, s3, s4⟩, ⟨h3, h4⟩ | ⟨h3, h4⟩⟩
    · rw [h2]; rcases h1 with h1 | h1 <;> simp [h1]
    · rw [h4, h1, h2]; simp; omega
    · rw [h4, h1, h2]; simp [mbx]

set_option maxRecDepth 100000 in
set_option maxHeartbeats 4000000 in
theorem sound_p (o a b c d : Int) : CallsP Try.prog 32 [.agg [.g (.int .i64 (o)), .g (.int .i64 (a)), .g (.int .i64 (b)), .g (.int .i64 (c)), .g (.int .i64 (d))]] (.t (.one (.g (.bool (soundB o a b c d))))) := by
  refine CallsP_of Try.func32 rfl (by rw [Try.ntmps32]; simp) ?_
  simp only [Try.ntmps32, List.map_cons, List.map_nil, PT.tv, argEnv, Nat.zero_add, Nat.reduceAdd]
  repeat' (first
    | (with_reducible refine AW_seq_k fun K hK => ?_)
    | ((first | (with_reducible refine And.intro ?_ ?_) | (with_reducible refine Need.mk ?_)); focus (first | exact True.intro | (with_reducible assumption) | omega | (refine ⟨?_, ?_⟩ <;> omega) | (intro _; first | exact True.intro | (with_reducible assumption) | omega) | (intros; (repeat' (first | exact True.intro | omega | (with_reducible assumption) | (with_reducible refine And.intro ?_ ?_))); done) | (simp (disch := omega) only [Bool.and_eq_true, Bool.or_eq_true, decide_eq_true_eq, bne_iff_ne, ne_eq] at *; first | done | omega | (intros; omega)) | (simp; done) | (simp; omega) | (simp +contextual; done) | (intro h; rw [h]; rfl) | (intros; simp_all; done)))
    | (with_reducible refine AW_skip ?_)
    | (with_reducible refine AW_exit ?_)
    | (with_reducible refine AW_ret ?_)
    | (with_reducible refine retK_n ?_)
    | (with_reducible refine retK_n' ?_)
    | (with_reducible refine retH_n rfl rfl rfl ?_)
    | (with_reducible refine retH_n' rfl rfl rfl ?_)
    | (with_reducible refine AW_condI ?_)
    | (with_reducible refine AW_block ?_)
    | ((with_reducible refine condN_t ?_ ?_) <;> (intro hc; (try simp only [Bool.and_eq_true, Bool.or_eq_true, Bool.not_eq_true', Bool.and_eq_false_iff, Bool.or_eq_false_iff, decide_eq_true_eq, decide_eq_false_iff_not, bne_iff_ne, beq_iff_eq, reduceCtorEq, bne_eq_false_iff_eq, beq_eq_false_iff_ne, Bool.not_eq_false', Int.not_le, Int.not_lt, Bool.not_not] at hc); (skip); (try (exfalso; first | contradiction | omega))))
    | (with_reducible refine AW_regionP 0 [0] ?_)
    | (with_reducible refine AW_regionP 1 [1] ?_)
    | (refine callN_q (k := 43) fnok_43 (office_p _) ?_ ?_)
    | (refine callGN_q (k := 26) fnok_26 (fun hg => vbox_p _ _ _ _) ?_ ?_)
    | ((fail_if_success (with_reducible show AW _ _ _ _)); simp (maxSteps := 2000000) only [go_sem, reduceIte, reduceCtorEq, Nat.reduceAdd, Nat.reduceLT, Nat.reduceLeDiff, Nat.reduceEqDiff, Nat.reduceMul, Nat.reduceSub, Nat.reduceBEq, Try.f32, of_42_0, ty_3, fnok_43, of_42_1, ty_40, fnok_26, of_40_0, of_38_0, of_38_1, of_40_1])
    | ((with_reducible refine hK _ ?_); clear hK K))
  all_goals (unfold soundB offB vbox; (try refine Bool.eq_iff_iff.2 ?_); (simp only [Bool.and_eq_true, Bool.or_eq_true, Bool.not_eq_true', decide_eq_true_eq, decide_eq_false_iff_not, bne_iff_ne, beq_iff_eq, ne_eq, ge_iff_le, gt_iff_lt, cond_eq_ite, iff_self, eq_self]; first | done | omega))

set_option maxRecDepth 100000 in
set_option maxHeartbeats 4000000 in
theorem has_p (a b c d x y : Int) : CallsP Try.prog 41 [.agg [.g (.int .i64 (a)), .g (.int .i64 (b)), .g (.int .i64 (c)), .g (.int .i64 (d))], .agg [.g (.int .i64 (x)), .g (.int .i64 (y))]] (.t (.one (.g (.bool (hasB a b c d x y))))) := by
  refine CallsP_of Try.func41 rfl (by rw [Try.ntmps41]; simp) ?_
  simp only [Try.ntmps41, List.map_cons, List.map_nil, PT.tv, argEnv, Nat.zero_add, Nat.reduceAdd]
  repeat' (first
    | (with_reducible refine AW_seq_k fun K hK => ?_)
    | ((first | (with_reducible refine And.intro ?_ ?_) | (with_reducible refine Need.mk ?_)); focus (first | exact True.intro | (with_reducible assumption) | omega | (refine ⟨?_, ?_⟩ <;> omega) | (intro _; first | exact True.intro | (with_reducible assumption) | omega) | (intros; (repeat' (first | exact True.intro | omega | (with_reducible assumption) | (with_reducible refine And.intro ?_ ?_))); done) | (simp (disch := omega) only [Bool.and_eq_true, Bool.or_eq_true, decide_eq_true_eq, bne_iff_ne, ne_eq] at *; first | done | omega | (intros; omega)) | (simp; done) | (simp; omega) | (simp +contextual; done) | (intro h; rw [h]; rfl) | (intros; simp_all; done)))
    | (with_reducible refine AW_skip ?_)
    | (with_reducible refine AW_exit ?_)
    | (with_reducible refine AW_ret ?_)
    | (with_reducible refine retK_n ?_)
    | (with_reducible refine retK_n' ?_)
    | (with_reducible refine retH_n rfl rfl rfl ?_)
    | (with_reducible refine retH_n' rfl rfl rfl ?_)
    | (with_reducible refine AW_condI ?_)
    | (with_reducible refine AW_block ?_)
    | ((with_reducible refine condN_t ?_ ?_) <;> (intro hc; (try simp only [Bool.and_eq_true, Bool.or_eq_true, Bool.not_eq_true', Bool.and_eq_false_iff, Bool.or_eq_false_iff, decide_eq_true_eq, decide_eq_false_iff_not, bne_iff_ne, beq_iff_eq, reduceCtorEq, bne_eq_false_iff_eq, beq_eq_false_iff_ne, Bool.not_eq_false', Int.not_le, Int.not_lt, Bool.not_not] at hc); (try (exfalso; first | contradiction | omega))))
    | (with_reducible refine AW_regionP 0 [0, 1] ?_)
    | (with_reducible refine AW_regionP 1 [2, 3] ?_)
    | ((fail_if_success (with_reducible show AW _ _ _ _)); simp (maxSteps := 2000000) only [go_sem, reduceIte, reduceCtorEq, Nat.reduceAdd, Nat.reduceLT, Nat.reduceLeDiff, Nat.reduceEqDiff, Nat.reduceMul, Nat.reduceSub, Nat.reduceBEq, Try.f41, of_40_0, of_38_0, ty_3, of_24_0, of_38_1, of_40_1, of_24_1, hasB])
    | ((with_reducible refine hK _ ?_); clear hK K))
  all_goals (first | (try refine Bool.eq_iff_iff.2 ?_); (simp only [Bool.and_eq_true, Bool.or_eq_true, Bool.not_eq_true', decide_eq_true_eq, decide_eq_false_iff_not, bne_iff_ne, beq_iff_eq, ne_eq, ge_iff_le, gt_iff_lt, cond_eq_ite, iff_self, eq_self]; first | done | omega) | skip)

set_option maxRecDepth 100000 in
set_option maxHeartbeats 4000000 in
theorem rhas_p (a b x : Int) : CallsP Try.prog 46 [.agg [.g (.int .i64 (a)), .g (.int .i64 (b))], .one (.g (.int .i64 (x)))] (.t (.one (.g (.bool (decide (a ≤ x ∧ x ≤ b)))))) := by
  refine CallsP_of Try.func46 rfl (by rw [Try.ntmps46]; simp) ?_
  simp only [Try.ntmps46, List.map_cons, List.map_nil, PT.tv, argEnv, Nat.zero_add, Nat.reduceAdd]
  repeat' (first
    | (with_reducible refine AW_seq_k fun K hK => ?_)
    | ((first | (with_reducible refine And.intro ?_ ?_) | (with_reducible refine Need.mk ?_)); focus (first | exact True.intro | (with_reducible assumption) | omega | (refine ⟨?_, ?_⟩ <;> omega) | (intro _; first | exact True.intro | (with_reducible assumption) | omega) | (intros; (repeat' (first | exact True.intro | omega | (with_reducible assumption) | (with_reducible refine And.intro ?_ ?_))); done) | (simp (disch := omega) only [Bool.and_eq_true, Bool.or_eq_true, decide_eq_true_eq, bne_iff_ne, ne_eq] at *; first | done | omega | (intros; omega)) | (simp; done) | (simp; omega) | (simp +contextual; done) | (intro h; rw [h]; rfl) | (intros; simp_all; done)))
    | (with_reducible refine AW_skip ?_)
    | (with_reducible refine AW_exit ?_)
    | (with_reducible refine AW_ret ?_)
    | (with_reducible refine retK_n ?_)
    | (with_reducible refine retK_n' ?_)
    | (with_reducible refine retH_n rfl rfl rfl ?_)
    | (with_reducible refine retH_n' rfl rfl rfl ?_)
    | (with_reducible refine AW_condI ?_)
    | (with_reducible refine AW_block ?_)
    | ((with_reducible refine condN_t ?_ ?_) <;> (intro hc; (try simp only [Bool.and_eq_true, Bool.or_eq_true, Bool.not_eq_true', Bool.and_eq_false_iff, Bool.or_eq_false_iff, decide_eq_true_eq, decide_eq_false_iff_not, bne_iff_ne, beq_iff_eq, reduceCtorEq, bne_eq_false_iff_eq, beq_eq_false_iff_ne, Bool.not_eq_false', Int.not_le, Int.not_lt, Bool.not_not] at hc); (try (exfalso; first | contradiction | omega))))
    | (with_reducible refine AW_regionP 0 [0, 1] ?_)
    | (with_reducible refine AW_regionP 1 [1, 2] ?_)
    | ((fail_if_success (with_reducible show AW _ _ _ _)); simp (maxSteps := 2000000) only [go_sem, reduceIte, reduceCtorEq, Nat.reduceAdd, Nat.reduceLT, Nat.reduceLeDiff, Nat.reduceEqDiff, Nat.reduceMul, Nat.reduceSub, Nat.reduceBEq, Try.f46, of_38_0, ty_3, of_38_1])
    | ((with_reducible refine hK _ ?_); clear hK K))
  all_goals (first | (try refine Bool.eq_iff_iff.2 ?_); (simp only [Bool.and_eq_true, Bool.or_eq_true, Bool.not_eq_true', decide_eq_true_eq, decide_eq_false_iff_not, bne_iff_ne, beq_iff_eq, ne_eq, ge_iff_le, gt_iff_lt, cond_eq_ite, iff_self, eq_self]; first | done | omega) | skip)

set_option maxRecDepth 100000 in
set_option maxHeartbeats 4000000 in
theorem rholds_p (a b c d x y : Int) : CallsP Try.prog 38 [.agg [.g (.int .i64 (a)), .g (.int .i64 (b)), .g (.int .i64 (c)), .g (.int .i64 (d))], .agg [.g (.int .i64 (x)), .g (.int .i64 (y))]] (.t (.one (.g (.bool (hasB a b c d x y))))) := by
  refine CallsP_of Try.func38 rfl (by rw [Try.ntmps38]; simp) ?_
  simp only [Try.ntmps38, List.map_cons, List.map_nil, PT.tv, argEnv, Nat.zero_add, Nat.reduceAdd]
  repeat' (first
    | (with_reducible refine AW_seq_k fun K hK => ?_)
    | ((first | (with_reducible refine And.intro ?_ ?_) | (with_reducible refine Need.mk ?_)); focus (first | exact True.intro | (with_reducible assumption) | omega | (refine ⟨?_, ?_⟩ <;> omega) | (intro _; first | exact True.intro | (with_reducible assumption) | omega) | (intros; (repeat' (first | exact True.intro | omega | (with_reducible assumption) | (with_reducible refine And.intro ?_ ?_))); done) | (simp (disch := omega) only [Bool.and_eq_true, Bool.or_eq_true, decide_eq_true_eq, bne_iff_ne, ne_eq] at *; first | done | omega | (intros; omega)) | (simp; done) | (simp; omega) | (simp +contextual; done) | (intro h; rw [h]; rfl) | (intros; simp_all; done)))
    | (with_reducible refine AW_skip ?_)
    | (with_reducible refine AW_exit ?_)
    | (with_reducible refine AW_ret ?_)
    | (with_reducible refine retK_n ?_)
    | (with_reducible refine retK_n' ?_)
    | (with_reducible refine retH_n rfl rfl rfl ?_)
    | (with_reducible refine retH_n' rfl rfl rfl ?_)
    | (with_reducible refine AW_condI ?_)
    | (with_reducible refine AW_block ?_)
    | ((with_reducible refine condN_t ?_ ?_) <;> (intro hc; (try simp only [Bool.and_eq_true, Bool.or_eq_true, Bool.not_eq_true', Bool.and_eq_false_iff, Bool.or_eq_false_iff, decide_eq_true_eq, decide_eq_false_iff_not, bne_iff_ne, beq_iff_eq, reduceCtorEq, bne_eq_false_iff_eq, beq_eq_false_iff_ne, Bool.not_eq_false', Int.not_le, Int.not_lt, Bool.not_not] at hc); (try (exfalso; first | contradiction | omega))))
    | (with_reducible refine AW_regionP 0 [0, 1] ?_)
    | (with_reducible refine AW_regionP 1 [2, 3] ?_)
    | (with_reducible refine AW_regionP 2 [2, 3, 5] ?_)
    | (with_reducible refine AW_regionP 3 [5, 6] ?_)
    | (refine callN_q (k := 46) fnok_46 (rhas_p _ _ _) ?_ ?_)
    | ((fail_if_success (with_reducible show AW _ _ _ _)); simp (maxSteps := 2000000) only [go_sem, reduceIte, reduceCtorEq, Nat.reduceAdd, Nat.reduceLT, Nat.reduceLeDiff, Nat.reduceEqDiff, Nat.reduceMul, Nat.reduceSub, Nat.reduceBEq, Try.f38, of_40_0, ty_38, of_24_0, ty_3, fnok_46, of_40_1, of_24_1, hasB])
    | ((with_reducible refine hK _ ?_); clear hK K))
  all_goals (first | (try refine Bool.eq_iff_iff.2 ?_); (simp only [Bool.and_eq_true, Bool.or_eq_true, Bool.not_eq_true', decide_eq_true_eq, decide_eq_false_iff_not, bne_iff_ne, beq_iff_eq, ne_eq, ge_iff_le, gt_iff_lt, cond_eq_ite, iff_self, eq_self]; first | done | omega) | skip)

set_option maxRecDepth 100000 in
set_option maxHeartbeats 4000000 in
theorem in_p (a b c d x y : Int) : CallsP Try.prog 13 [.agg [.g (.int .i64 (a)), .g (.int .i64 (b)), .g (.int .i64 (c)), .g (.int .i64 (d))], .agg [.g (.int .i64 (x)), .g (.int .i64 (y))]] (.tup [.one (.g (.bool (hasB a b c d x y))), .one (.g (.bool (inB a b c d x y)))]) := by
  refine CallsP_of Try.func13 rfl (by rw [Try.ntmps13]; simp) ?_
  simp only [Try.ntmps13, List.map_cons, List.map_nil, PT.tv, argEnv, Nat.zero_add, Nat.reduceAdd]
  repeat' (first
    | (with_reducible refine AW_seq_k fun K hK => ?_)
    | ((first | (with_reducible refine And.intro ?_ ?_) | (with_reducible refine Need.mk ?_)); focus (first | exact True.intro | (with_reducible assumption) | omega | (refine ⟨?_, ?_⟩ <;> omega) | (intro _; first | exact True.intro | (with_reducible assumption) | omega) | (intros; (repeat' (first | exact True.intro | omega | (with_reducible assumption) | (with_reducible refine And.intro ?_ ?_))); done) | (simp (disch := omega) only [Bool.and_eq_true, Bool.or_eq_true, decide_eq_true_eq, bne_iff_ne, ne_eq] at *; first | done | omega | (intros; omega)) | (simp; done) | (simp; omega) | (simp +contextual; done) | (intro h; rw [h]; rfl) | (intros; simp_all; done)))
    | (with_reducible refine AW_skip ?_)
    | (with_reducible refine AW_exit ?_)
    | (with_reducible refine AW_ret ?_)
    | (with_reducible refine retK_n ?_)
    | (with_reducible refine retK_n' ?_)
    | (with_reducible refine retH_n rfl rfl rfl ?_)
    | (with_reducible refine retH_n' rfl rfl rfl ?_)
    | (with_reducible refine AW_condI ?_)
    | (with_reducible refine AW_block ?_)
    | ((with_reducible refine condN_t ?_ ?_) <;> (intro hc; (try simp only [Bool.and_eq_true, Bool.or_eq_true, Bool.not_eq_true', Bool.and_eq_false_iff, Bool.or_eq_false_iff, decide_eq_true_eq, decide_eq_false_iff_not, bne_iff_ne, beq_iff_eq, reduceCtorEq, bne_eq_false_iff_eq, beq_eq_false_iff_ne, Bool.not_eq_false', Int.not_le, Int.not_lt, Bool.not_not] at hc); (try (exfalso; first | contradiction | omega))))
    | (with_reducible refine AW_regionP 0 [0, 1] ?_)
    | (with_reducible refine AW_regionP 1 [2, 3] ?_)
    | ((with_reducible refine AW_prune (c := Code.region 2 _ true) [2, 3, 6] ?_); (with_reducible refine AW_regionD ?_ ?_ ?_ ?_); (focus kernel_rfl); (focus kernel_rfl); (focus kernel_rfl))
    | ((with_reducible refine And.intro ?_ ?_); focus ((with_reducible show chkR _ _ _ = true); kernel_rfl))
    | ((fail_if_success (with_reducible show AW _ _ _ _)); simp (maxSteps := 2000000) only [go_sem, reduceIte, reduceCtorEq, Nat.reduceAdd, Nat.reduceLT, Nat.reduceLeDiff, Nat.reduceEqDiff, Nat.reduceMul, Nat.reduceSub, Nat.reduceBEq, Try.f13, of_40_0, of_38_0, ty_3, of_24_0, of_38_1, of_40_1, of_24_1, hasB, inB])
    | ((with_reducible refine hK _ ?_); clear hK K))
  all_goals (first | (try refine Bool.eq_iff_iff.2 ?_); (simp only [Bool.and_eq_true, Bool.or_eq_true, Bool.not_eq_true', decide_eq_true_eq, decide_eq_false_iff_not, bne_iff_ne, beq_iff_eq, ne_eq, ge_iff_le, gt_iff_lt, cond_eq_ite, iff_self, eq_self]; first | done | omega) | (refine ⟨?_, ?_⟩ <;> ((try refine Bool.eq_iff_iff.2 ?_); (simp only [Bool.and_eq_true, Bool.or_eq_true, Bool.not_eq_true', decide_eq_true_eq, decide_eq_false_iff_not, bne_iff_ne, beq_iff_eq, ne_eq, ge_iff_le, gt_iff_lt, cond_eq_ite, iff_self, eq_self]; first | done | omega))) | skip)

end Go.Proofs.Ytbckibbgajfihaa
