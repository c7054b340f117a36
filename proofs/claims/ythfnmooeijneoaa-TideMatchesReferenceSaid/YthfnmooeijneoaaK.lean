/- K: walks on abstract states. -/
import Derived.Test.YthfnmooeijneoaaJ
import Derived.Test.YthfnmooeijneoaaG
set_option linter.unusedVariables false
set_option linter.unusedSimpArgs false
namespace Go.Proofs.Ythfnmooeijneoaa
open Go.RowKit Go.Sea
attribute [local go_sem] callK_N gf gk gdrop lkL setL lsF ltAll rdyL bodyF roundQ roundS loopQ loopS jumpOf inLs yV yA bAV zipPut purgeG List.tail_cons Option.isNone_none Option.isNone_some callGK_f callDK_f callDGK_f retN retHN blockA arun_nil arun_plain arun_guard plainF guardF guardB arunD_nil arunD_plain arunD_guard plainDF guardDF guardDB AS.ent Eff.noApp Eff.tgt ftF AV.refs TV.refs CV.refs LV.refs Op.operands Call.operands List.append_toArray List.push_toArray List.flatMap_cons List.flatMap_nil List.toList_toArray Option.toArray List.reverse_cons List.reverse_nil opF AS.ev constA lk AS.get AV.tv AV.nd AS.eff AS.put argEnv PT.tv PV.av AV.mbOf hset hget TV.cells dstOk thenA gB isB toB TV.bool? TV.int? intF loadF storeF fieldF indexF lenF sliceF optI appF minmaxF ipCells fillF repC partsF lvsF TV.lv LV.tv purgeE purgeC purgeH AV.purge CV.purge AV.has TV.has CV.has LV.has calleeF argsF tvsF toPT toIV toIVs toPTs toPV civ isIv iA bA List.map_cons List.map_nil List.length_nil List.length_cons List.getElem?_cons_zero List.getElem?_cons_succ List.getElem?_nil Option.getD_some Option.getD_none Option.bind_some Option.bind_none List.take_succ_cons List.take_zero List.drop_succ_cons List.drop_zero List.take_nil List.drop_nil List.cons_append List.nil_append List.append_nil List.getD_cons_zero List.getD_cons_succ Option.map_some Option.map_none Option.isSome_some Option.isSome_none List.size_toArray List.any_cons List.any_nil List.mem_cons if_true if_false ite_true ite_false cond_true cond_false Nat.zero_add Nat.add_zero Nat.sub_zero Nat.le_refl Nat.zero_mul Nat.mul_zero Nat.one_mul Nat.mul_one Int.toNat_zero Int.toNat_natCast Bool.or_false Bool.false_or Bool.or_true Bool.true_or Bool.and_true Bool.true_and Bool.and_false Bool.false_and beq_self_eq_true beq_true beq_false Bool.not_true Bool.not_false and_true true_and and_false false_and and_self imp_self Bool.cond_false_right Bool.cond_true_left implies_true forall_const true_implies false_implies Option.some.injEq Prod.mk.injEq ne_eq not_false_eq_true not_true_eq_false eq_self Nat.lt_irrefl Nat.not_lt_zero boF seaMin seaMax seaNat1 seaNat2 Value.bool.injEq Value.int.injEq srcF lstC TV.dp IV.eqv PT.eqv PV.eqv All2 keepE hupd callZ_N AS.frz AS.frzW frzs frzsOk frzOk frzE frzA frzT frzC frzG frzH hdel cmpS eqF eqC gvs eqVs eqV decide_true resF tupA inlQ okL okGL okG nextL wkH wkC wkV nilA nilC AV.ok TV.ok CV.ok LV.ok okB forall_eq_or_imp forall_eq List.not_mem_nil List.mem_singleton true_or or_true or_false false_or exists_prop AV.t.injEq TV.one.injEq CV.iv.injEq IV.g.injEq TV.agg.injEq List.cons.injEq
theorem fo_24 : fieldsOk Try.prog 24 = true := by kernel_rfl
theorem fo_45 : fieldsOk Try.prog 45 = true := by kernel_rfl
theorem pl_24_0 : placeF Try.prog 24 0 = some (0, 1) := by kernel_rfl
theorem pl_24_1 : placeF Try.prog 24 1 = some (1, 1) := by kernel_rfl
theorem pl_24_2 : placeF Try.prog 24 2 = some (2, 1) := by kernel_rfl
theorem pl_45_0 : placeF Try.prog 45 0 = some (0, 1) := by kernel_rfl
theorem pl_45_1 : placeF Try.prog 45 1 = some (1, 1) := by kernel_rfl
theorem pl_45_2 : placeF Try.prog 45 2 = some (2, 1) := by kernel_rfl
theorem zc_24 : zeroC Try.prog 24 = some [.iv (.g (.int .i64 0)), .iv (.g (.int .i64 0)), .iv (.g (.slice none 0 0))] := by kernel_rfl
theorem zc_3 : zeroC Try.prog 3 = some [.iv (.g (.int .i64 0))] := by kernel_rfl
theorem zc_45 : zeroC Try.prog 45 = some [.iv (.g (.int .i64 0)), .iv (.g (.int .i64 0)), .iv (.g (.slice none 0 0))] := by kernel_rfl

def shipS : Nat → Int
  | 0 => 2
  | _ => 5
def tabL : Nat → Int
  | 0 => 5
  | 1 => 9
  | _ => 8
def tabH : Nat → Int
  | 0 => 7
  | 1 => 12
  | _ => 8
theorem x_n1 : kN 80 10 2 shipS 0 = 90 ∧ kE 80 10 2 shipS 0 = 0 := by decide +kernel
theorem x_n2 : kN 80 10 2 shipS 100 = 92 ∧ kE 80 10 2 shipS 100 = 0 := by decide +kernel
theorem x_n3 : kN 80 10 2 shipS 101 = 95 ∧ kE 80 10 2 shipS 101 = 0 := by decide +kernel
theorem x_n4 : kN 80 10 2 shipS 201 = 0 ∧ kE 80 10 2 shipS 201 = 3 := by decide +kernel
theorem x_d1 : dB 80 10 2 shipS 100 10 3 tabL tabH 85 100 100 120 = false ∧ dE 80 10 2 shipS 100 10 3 tabL tabH 85 100 100 120 = 0 := by decide +kernel
theorem x_d2 : dB 80 10 2 shipS 100 10 3 tabL tabH 85 100 110 120 = true ∧ dE 80 10 2 shipS 100 10 3 tabL tabH 85 100 110 120 = 0 := by decide +kernel
theorem x_l : max (lN 80 10 2 shipS 100 100 10 3 tabL tabH 100 120) 0 = 87 ∧ lE 80 10 2 shipS 100 100 10 3 tabL tabH 100 120 = 0 := by decide +kernel
theorem x_f1 : fV 80 10 2 shipS 6 86 = 100 ∧ fE 80 10 2 shipS 6 86 = 0 := by decide +kernel
theorem x_f2 : fV 80 10 2 shipS 6 84 = 0 ∧ fE 80 10 2 shipS 6 84 = 0 := by decide +kernel
theorem x_f3 : fV 80 10 2 shipS 6 83 = 0 ∧ fE 80 10 2 shipS 6 83 = 4 := by decide +kernel
theorem x_w : kWS 80 10 2 shipS 100 85 100 10 3 tabL tabH = [(110, 120)] ∧ kWE 80 10 2 shipS 100 85 100 10 3 tabL tabH = 0 := by decide +kernel
theorem x_v : vV 80 10 2 shipS 100 85 100 10 3 tabL tabH 0 5 = 110 ∧ vE 80 10 2 shipS 100 85 100 10 3 tabL tabH 0 5 = 0 := by decide +kernel

set_option maxRecDepth 100000 in
set_option maxHeartbeats 4000000 in
theorem ship_p  : CallsP Try.prog 68 [] (.t (shipP 80 10 2 shipS)) := by
  refine CallsP_of Try.func68 rfl (by rw [Try.ntmps68]; simp) ?_
  simp only [Try.ntmps68, List.map_cons, List.map_nil, PT.tv, argEnv, Nat.zero_add, Nat.reduceAdd]
  repeat' (first
    | (with_reducible refine AW_seq_k fun K hK => ?_)
    | ((first | (with_reducible refine And.intro ?_ ?_) | (with_reducible refine Need.mk ?_)); focus (first | exact True.intro | (with_reducible assumption) | omega | (refine ⟨?_, ?_⟩ <;> omega) | (intro _; first | exact True.intro | (with_reducible assumption) | omega) | (intros; (repeat' (first | exact True.intro | omega | (with_reducible assumption) | (with_reducible refine And.intro ?_ ?_))); done) | (simp (disch := omega) only [Bool.and_eq_true, Bool.or_eq_true, decide_eq_true_eq, bne_iff_ne, ne_eq] at *; first | done | omega | (intros; omega)) | (simp; done) | (simp; omega) | (simp +contextual; done) | (intro h; rw [h]; rfl) | (intros; simp_all; done)))
    | (with_reducible refine AW_skip ?_)
    | (with_reducible refine AW_exit ?_)
    | (with_reducible refine AW_ret ?_)
    | (with_reducible refine retK_n ?_)
    | (with_reducible refine retK_n' ?_)
    | (with_reducible refine retH_n rfl rfl rfl ?_)
    | (with_reducible refine retH_n' rfl rfl rfl ?_)
    | (with_reducible refine AW_condI ?_)
    | (with_reducible refine AW_block ?_)
    | ((with_reducible refine condN_t ?_ ?_) <;> (intro hc; (try simp only [Bool.and_eq_true, Bool.or_eq_true, Bool.not_eq_true', Bool.and_eq_false_iff, Bool.or_eq_false_iff, decide_eq_true_eq, decide_eq_false_iff_not, bne_iff_ne, beq_iff_eq, reduceCtorEq, bne_eq_false_iff_eq, beq_eq_false_iff_ne, Bool.not_eq_false', Int.not_le, Int.not_lt, Bool.not_not] at hc); (try (exfalso; first | contradiction | omega))))
    | (with_reducible refine AW_regionP 0 [] ?_)
    | (with_reducible refine AW_regionP 1 [0] ?_)
    | ((fail_if_success (with_reducible show AW _ _ _ _)); simp (maxSteps := 2000000) only [go_sem, reduceIte, reduceCtorEq, Nat.reduceAdd, Nat.reduceLT, Nat.reduceLeDiff, Nat.reduceEqDiff, Nat.reduceMul, Nat.reduceSub, Nat.reduceBEq, Try.f68, zc_45, sl_43, zc_3, fo_45, pl_45_0, pl_45_1, pl_45_2, ty_45])
    | ((with_reducible refine hK _ ?_); clear hK K))
  all_goals (intro i o hi ho; (rcases i with _ | _ | _ | i) <;> (rcases o with _ | _ | o) <;> first | omega | exact IV.eqv_refl _)

set_option maxRecDepth 100000 in
set_option maxHeartbeats 4000000 in
theorem table_p  : CallsP Try.prog 69 [] (.t (tideP 100 10 3 tabL tabH)) := by
  refine CallsP_of Try.func69 rfl (by rw [Try.ntmps69]; simp) ?_
  simp only [Try.ntmps69, List.map_cons, List.map_nil, PT.tv, argEnv, Nat.zero_add, Nat.reduceAdd]
  repeat' (first
    | (with_reducible refine AW_seq_k fun K hK => ?_)
    | ((first | (with_reducible refine And.intro ?_ ?_) | (with_reducible refine Need.mk ?_)); focus (first | exact True.intro | (with_reducible assumption) | omega | (refine ⟨?_, ?_⟩ <;> omega) | (intro _; first | exact True.intro | (with_reducible assumption) | omega) | (intros; (repeat' (first | exact True.intro | omega | (with_reducible assumption) | (with_reducible refine And.intro ?_ ?_))); done) | (simp (disch := omega) only [Bool.and_eq_true, Bool.or_eq_true, decide_eq_true_eq, bne_iff_ne, ne_eq] at *; first | done | omega | (intros; omega)) | (simp; done) | (simp; omega) | (simp +contextual; done) | (intro h; rw [h]; rfl) | (intros; simp_all; done)))
    | (with_reducible refine AW_skip ?_)
    | (with_reducible refine AW_exit ?_)
    | (with_reducible refine AW_ret ?_)
    | (with_reducible refine retK_n ?_)
    | (with_reducible refine retK_n' ?_)
    | (with_reducible refine retH_n rfl rfl rfl ?_)
    | (with_reducible refine retH_n' rfl rfl rfl ?_)
    | (with_reducible refine AW_condI ?_)
    | (with_reducible refine AW_block ?_)
    | ((with_reducible refine condN_t ?_ ?_) <;> (intro hc; (try simp only [Bool.and_eq_true, Bool.or_eq_true, Bool.not_eq_true', Bool.and_eq_false_iff, Bool.or_eq_false_iff, decide_eq_true_eq, decide_eq_false_iff_not, bne_iff_ne, beq_iff_eq, reduceCtorEq, bne_eq_false_iff_eq, beq_eq_false_iff_ne, Bool.not_eq_false', Int.not_le, Int.not_lt, Bool.not_not] at hc); (try (exfalso; first | contradiction | omega))))
    | (with_reducible refine AW_regionP 0 [] ?_)
    | (with_reducible refine AW_regionP 1 [0] ?_)
    | ((fail_if_success (with_reducible show AW _ _ _ _)); simp (maxSteps := 2000000) only [go_sem, reduceIte, reduceCtorEq, Nat.reduceAdd, Nat.reduceLT, Nat.reduceLeDiff, Nat.reduceEqDiff, Nat.reduceMul, Nat.reduceSub, Nat.reduceBEq, Try.f69, zc_24, zc_31, fo_31, pl_31_0, pl_31_1, sl_22, fo_24, pl_24_0, pl_24_1, pl_24_2, ty_24])
    | ((with_reducible refine hK _ ?_); clear hK K))
  all_goals (intro i o hi ho; (rcases i with _ | _ | _ | i) <;> (rcases o with _ | _ | o) <;> first | omega | exact IV.eqv_refl _)
theorem c_n1 : CallsP Try.prog 34 [shipP 80 10 2 shipS, .one (.g (.int .i64 (0)))] (.tup [.one (.g (.int .i64 (90))), .one (.g (.int .i64 (0)))]) := by
  have h := kneed_p 80 10 2 shipS 0
  rw [x_n1.1, x_n1.2] at h
  exact h
theorem c_n2 : CallsP Try.prog 34 [shipP 80 10 2 shipS, .one (.g (.int .i64 (100)))] (.tup [.one (.g (.int .i64 (92))), .one (.g (.int .i64 (0)))]) := by
  have h := kneed_p 80 10 2 shipS 100
  rw [x_n2.1, x_n2.2] at h
  exact h
theorem c_n3 : CallsP Try.prog 34 [shipP 80 10 2 shipS, .one (.g (.int .i64 (101)))] (.tup [.one (.g (.int .i64 (95))), .one (.g (.int .i64 (0)))]) := by
  have h := kneed_p 80 10 2 shipS 101
  rw [x_n3.1, x_n3.2] at h
  exact h
theorem c_n4 : CallsP Try.prog 34 [shipP 80 10 2 shipS, .one (.g (.int .i64 (201)))] (.tup [.one (.g (.int .i64 (0))), .one (.g (.int .i64 (3)))]) := by
  have h := kneed_p 80 10 2 shipS 201
  rw [x_n4.1, x_n4.2] at h
  exact h
theorem c_d1 : CallsP Try.prog 36 [shipP 80 10 2 shipS, tideP 100 10 3 tabL tabH, .one (.g (.int .i64 (85))), .one (.g (.int .i64 (100))), .one (.g (.int .i64 (100))), .one (.g (.int .i64 (120)))] (.tup [.one (.g (.bool false)), .one (.g (.int .i64 (0)))]) := by
  have h := kdeep_p 80 10 2 shipS 100 10 3 tabL tabH 85 100 100 120
  rw [x_d1.1, x_d1.2] at h
  exact h
theorem c_d2 : CallsP Try.prog 36 [shipP 80 10 2 shipS, tideP 100 10 3 tabL tabH, .one (.g (.int .i64 (85))), .one (.g (.int .i64 (100))), .one (.g (.int .i64 (110))), .one (.g (.int .i64 (120)))] (.tup [.one (.g (.bool true)), .one (.g (.int .i64 (0)))]) := by
  have h := kdeep_p 80 10 2 shipS 100 10 3 tabL tabH 85 100 110 120
  rw [x_d2.1, x_d2.2] at h
  exact h
theorem c_l : CallsP Try.prog 38 [shipP 80 10 2 shipS, tideP 100 10 3 tabL tabH, .one (.g (.int .i64 (100))), .one (.g (.int .i64 (100))), .one (.g (.int .i64 (120)))] (.tup [.one (.g (.int .i64 (87))), .one (.g (.int .i64 (0)))]) := by
  have h := kleast_p 80 10 2 shipS 100 10 3 tabL tabH 100 100 120
  rw [x_l.1, x_l.2] at h
  exact h
theorem c_f1 : CallsP Try.prog 40 [shipP 80 10 2 shipS, .one (.g (.int .i64 (6))), .one (.g (.int .i64 (86)))] (.tup [.one (.g (.int .i64 (100))), .one (.g (.int .i64 (0)))]) := by
  have h := fast_p 80 10 2 shipS 6 86
  rw [x_f1.1, x_f1.2] at h
  exact h
theorem c_f2 : CallsP Try.prog 40 [shipP 80 10 2 shipS, .one (.g (.int .i64 (6))), .one (.g (.int .i64 (84)))] (.tup [.one (.g (.int .i64 (0))), .one (.g (.int .i64 (0)))]) := by
  have h := fast_p 80 10 2 shipS 6 84
  rw [x_f2.1, x_f2.2] at h
  exact h
theorem c_f3 : CallsP Try.prog 40 [shipP 80 10 2 shipS, .one (.g (.int .i64 (6))), .one (.g (.int .i64 (83)))] (.tup [.one (.g (.int .i64 (0))), .one (.g (.int .i64 (4)))]) := by
  have h := fast_p 80 10 2 shipS 6 83
  rw [x_f3.1, x_f3.2] at h
  exact h
theorem c_w : CallsP Try.prog 42 [shipP 80 10 2 shipS, tideP 100 10 3 tabL tabH, .one (.g (.int .i64 (85))), .one (.g (.int .i64 (100)))] (.tup [.one (.lst 2 ([((110 : Int), (120 : Int))].length) (spanF (L1 [(110, 120)]) (L2 [(110, 120)]))), .one (.g (.int .i64 (0)))]) := by
  have h := kwin_p 80 10 2 shipS 100 85 100 10 3 tabL tabH
  rw [x_w.1, x_w.2] at h
  exact h
theorem c_v : CallsP Try.prog 44 [shipP 80 10 2 shipS, tideP 100 10 3 tabL tabH, .one (.g (.int .i64 (85))), .one (.g (.int .i64 (100))), .one (.g (.int .i64 (0))), .one (.g (.int .i64 (5)))] (.tup [.one (.g (.int .i64 (110))), .one (.g (.int .i64 (0)))]) := by
  have h := kleave_p 80 10 2 shipS 100 85 100 10 3 tabL tabH 0 5
  rw [x_v.1, x_v.2] at h
  exact h

end Go.Proofs.Ythfnmooeijneoaa
