/- J: walks on abstract states. -/
import Derived.Test.YthfnmooeijneoaaH
import Derived.Test.YthfnmooeijneoaaF
set_option linter.unusedVariables false
set_option linter.unusedSimpArgs false
namespace Go.Proofs.Ythfnmooeijneoaa
open Go.RowKit Go.Sea
attribute [local go_sem] callK_N gf gk gdrop lkL setL lsF ltAll rdyL bodyF roundQ roundS loopQ loopS jumpOf inLs yV yA bAV zipPut purgeG List.tail_cons Option.isNone_none Option.isNone_some callGK_f callDK_f callDGK_f retN retHN blockA arun_nil arun_plain arun_guard plainF guardF guardB arunD_nil arunD_plain arunD_guard plainDF guardDF guardDB AS.ent Eff.noApp Eff.tgt ftF AV.refs TV.refs CV.refs LV.refs Op.operands Call.operands List.append_toArray List.push_toArray List.flatMap_cons List.flatMap_nil List.toList_toArray Option.toArray List.reverse_cons List.reverse_nil opF AS.ev constA lk AS.get AV.tv AV.nd AS.eff AS.put argEnv PT.tv PV.av AV.mbOf hset hget TV.cells dstOk thenA gB isB toB TV.bool? TV.int? intF loadF storeF fieldF indexF lenF sliceF optI appF minmaxF ipCells fillF repC partsF lvsF TV.lv LV.tv purgeE purgeC purgeH AV.purge CV.purge AV.has TV.has CV.has LV.has calleeF argsF tvsF toPT toIV toIVs toPTs toPV civ isIv iA bA List.map_cons List.map_nil List.length_nil List.length_cons List.getElem?_cons_zero List.getElem?_cons_succ List.getElem?_nil Option.getD_some Option.getD_none Option.bind_some Option.bind_none List.take_succ_cons List.take_zero List.drop_succ_cons List.drop_zero List.take_nil List.drop_nil List.cons_append List.nil_append List.append_nil List.getD_cons_zero List.getD_cons_succ Option.map_some Option.map_none Option.isSome_some Option.isSome_none List.size_toArray List.any_cons List.any_nil List.mem_cons if_true if_false ite_true ite_false cond_true cond_false Nat.zero_add Nat.add_zero Nat.sub_zero Nat.le_refl Nat.zero_mul Nat.mul_zero Nat.one_mul Nat.mul_one Int.toNat_zero Int.toNat_natCast Bool.or_false Bool.false_or Bool.or_true Bool.true_or Bool.and_true Bool.true_and Bool.and_false Bool.false_and beq_self_eq_true beq_true beq_false Bool.not_true Bool.not_false and_true true_and and_false false_and and_self imp_self Bool.cond_false_right Bool.cond_true_left implies_true forall_const true_implies false_implies Option.some.injEq Prod.mk.injEq ne_eq not_false_eq_true not_true_eq_false eq_self Nat.lt_irrefl Nat.not_lt_zero boF seaMin seaMax seaNat1 seaNat2 Value.bool.injEq Value.int.injEq srcF lstC TV.dp IV.eqv PT.eqv PV.eqv All2 keepE hupd callZ_N AS.frz AS.frzW frzs frzsOk frzOk frzE frzA frzT frzC frzG frzH hdel cmpS eqF eqC gvs eqVs eqV decide_true resF tupA inlQ okL okGL okG nextL wkH wkC wkV nilA nilC AV.ok TV.ok CV.ok LV.ok okB forall_eq_or_imp forall_eq List.not_mem_nil List.mem_singleton true_or or_true or_false false_or exists_prop AV.t.injEq TV.one.injEq CV.iv.injEq IV.g.injEq TV.agg.injEq List.cons.injEq
theorem fnok_16 : fnOk Try.prog 16 = true := by kernel_rfl
theorem fnok_79 : fnOk Try.prog 79 = true := by kernel_rfl
theorem of_80_2 : offOf Try.prog 80 2 = some 4 := by kernel_rfl
theorem pl_80_2 : placeF Try.prog 80 2 = some (4, 1) := by kernel_rfl

def rB (d m : Int) (q : Nat) (sq : Nat → Int) (v dp s st : Int) (n : Nat) (lo hi : Nat → Int) : Bool := kval d m q sq && isSp v && isDp dp && tval s st n lo hi
def rE (d m : Int) (q : Nat) (sq : Nat → Int) (v dp s st : Int) (n : Nat) (lo hi : Nat → Int) : Int := if rB d m q sq v dp s st n lo hi = true then (if v ≤ 100 * q then 0 else 3) else 1
theorem rE_c (d m : Int) (q : Nat) (sq : Nat → Int) (v dp s st : Int) (n : Nat) (lo hi : Nat → Int) : (rB d m q sq v dp s st n lo hi = false ∧ rE d m q sq v dp s st n lo hi = 1) ∨ (kval d m q sq = true ∧ isSp v = true ∧ isDp dp = true ∧ tval s st n lo hi = true ∧ (0 ≤ v ∧ v ≤ 2000 ∧ 0 ≤ dp ∧ dp ≤ 100000 ∧ q ≤ 20) ∧ ((100 * (q : Int) < v ∧ rE d m q sq v dp s st n lo hi = 3) ∨ (v ≤ 100 * (q : Int) ∧ rE d m q sq v dp s st n lo hi = 0))) := by
  unfold rE
  cases h : rB d m q sq v dp s st n lo hi with
  | false => exact Or.inl ⟨rfl, by simp⟩
  | true =>
    simp only [rB, Bool.and_eq_true] at h
    obtain ⟨⟨⟨a, b⟩, c⟩, e⟩ := h
    have b1 : 0 ≤ v ∧ v ≤ 2000 := of_decide_eq_true b
    have c1 : 0 ≤ dp ∧ dp ≤ 100000 := of_decide_eq_true c
    refine Or.inr ⟨a, b, c, e, ⟨b1.1, b1.2, c1.1, c1.2, (kval_kv a).q1⟩, ?_⟩
    by_cases g : v ≤ 100 * (q : Int)
    · exact Or.inr ⟨g, by simp [g]⟩
    · exact Or.inl ⟨by omega, by simp [g]⟩

set_option maxRecDepth 100000 in
set_option maxHeartbeats 4000000 in
theorem ready_1 (d m : Int) (q : Nat) (sq : Nat → Int) (v dp s st : Int) (n : Nat) (lo hi : Nat → Int) (hh : rB d m q sq v dp s st n lo hi = false) : CallsP Try.prog 79 [sailP d m q sq v dp s st n lo hi] (.t (.one (.g (.int .i64 (1))))) := by
  refine CallsP_of Try.func79 rfl (by rw [Try.ntmps79]; simp) ?_
  simp only [Try.ntmps79, List.map_cons, List.map_nil, PT.tv, argEnv, Nat.zero_add, Nat.reduceAdd]
  repeat' (first
    | (with_reducible refine AW_seq_k fun K hK => ?_)
    | ((first | (with_reducible refine And.intro ?_ ?_) | (with_reducible refine Need.mk ?_)); focus (first | exact True.intro | (with_reducible assumption) | omega | (refine ⟨?_, ?_⟩ <;> omega) | (intro _; first | exact True.intro | (with_reducible assumption) | omega) | (intros; (repeat' (first | exact True.intro | omega | (with_reducible assumption) | (with_reducible refine And.intro ?_ ?_))); done) | (simp (disch := omega) only [Bool.and_eq_true, Bool.or_eq_true, decide_eq_true_eq, bne_iff_ne, ne_eq] at *; first | done | omega | (intros; omega)) | (simp; done) | (simp; omega) | (simp +contextual; done) | (intro h; rw [h]; rfl) | (intros; simp_all; done)))
    | (with_reducible refine AW_skip ?_)
    | (with_reducible refine AW_exit ?_)
    | (with_reducible refine AW_ret ?_)
    | (with_reducible refine retK_n ?_)
    | (with_reducible refine retK_n' ?_)
    | (with_reducible refine retH_n rfl rfl rfl ?_)
    | (with_reducible refine retH_n' rfl rfl rfl ?_)
    | (with_reducible refine AW_condI ?_)
    | (with_reducible refine AW_block ?_)
    | ((with_reducible refine condN_t ?_ ?_) <;> (intro hc; (try simp only [Bool.and_eq_true, Bool.or_eq_true, Bool.not_eq_true', Bool.and_eq_false_iff, Bool.or_eq_false_iff, decide_eq_true_eq, decide_eq_false_iff_not, bne_iff_ne, beq_iff_eq, reduceCtorEq, bne_eq_false_iff_eq, beq_eq_false_iff_ne, Bool.not_eq_false', Int.not_le, Int.not_lt, Bool.not_not] at hc); (try (exfalso; first | contradiction | omega))))
    | (with_reducible refine AW_regionP 0 [0] ?_)
    | (with_reducible refine AW_regionP 1 [1] ?_)
    | (with_reducible refine AW_regionP 2 [] ?_)
    | (with_reducible refine AW_regionP 3 [1] ?_)
    | (with_reducible refine AW_regionP 4 [] ?_)
    | (with_reducible refine AW_regionP 5 [] ?_)
    | (refine callN_q (k := 71) fnok_71 (svalid_p _ _ _ _ _ _ _ _ _ _ _) ?_ ?_)
    | (refine callGN_q (k := 75) fnok_75 (fun hg => isDepth_p _) ?_ ?_)
    | (refine callGN_q (k := 18) fnok_18 (fun hg => valid_p _ _ _ _ _) ?_ ?_)
    | ((fail_if_success (with_reducible show AW _ _ _ _)); simp (maxSteps := 2000000) only [go_sem, reduceIte, reduceCtorEq, Nat.reduceAdd, Nat.reduceLT, Nat.reduceLeDiff, Nat.reduceEqDiff, Nat.reduceMul, Nat.reduceSub, Nat.reduceBEq, Try.f79, ty_80, fnok_71, of_80_2, ty_3, fnok_75, of_80_3, ty_24, fnok_18, fnok_72])
    | ((with_reducible refine hK _ ?_); clear hK K))
  all_goals (simp_all [rB])

set_option maxRecDepth 100000 in
set_option maxHeartbeats 4000000 in
theorem ready_3 (d m : Int) (q : Nat) (sq : Nat → Int) (v dp s st : Int) (n : Nat) (lo hi : Nat → Int) (hk : kval d m q sq = true) (hs : isSp v = true) (hx : isDp dp = true) (ht : tval s st n lo hi = true) (v0 : 0 ≤ v) (v1 : v ≤ 2000) (x0 : 0 ≤ dp) (x1 : dp ≤ 100000) (q1 : q ≤ 20) (c : 100 * (q : Int) < v) : CallsP Try.prog 79 [sailP d m q sq v dp s st n lo hi] (.t (.one (.g (.int .i64 (3))))) := by
  refine CallsP_of Try.func79 rfl (by rw [Try.ntmps79]; simp) ?_
  simp only [Try.ntmps79, List.map_cons, List.map_nil, PT.tv, argEnv, Nat.zero_add, Nat.reduceAdd]
  repeat' (first
    | (with_reducible refine AW_seq_k fun K hK => ?_)
    | ((first | (with_reducible refine And.intro ?_ ?_) | (with_reducible refine Need.mk ?_)); focus (first | exact True.intro | (with_reducible assumption) | omega | (refine ⟨?_, ?_⟩ <;> omega) | (intro _; first | exact True.intro | (with_reducible assumption) | omega) | (intros; (repeat' (first | exact True.intro | omega | (with_reducible assumption) | (with_reducible refine And.intro ?_ ?_))); done) | (simp (disch := omega) only [Bool.and_eq_true, Bool.or_eq_true, decide_eq_true_eq, bne_iff_ne, ne_eq] at *; first | done | omega | (intros; omega)) | (simp; done) | (simp; omega) | (simp +contextual; done) | (intro h; rw [h]; rfl) | (intros; simp_all; done)))
    | (with_reducible refine AW_skip ?_)
    | (with_reducible refine AW_exit ?_)
    | (with_reducible refine AW_ret ?_)
    | (with_reducible refine retK_n ?_)
    | (with_reducible refine retK_n' ?_)
    | (with_reducible refine retH_n rfl rfl rfl ?_)
    | (with_reducible refine retH_n' rfl rfl rfl ?_)
    | (with_reducible refine AW_condI ?_)
    | (with_reducible refine AW_block ?_)
    | ((with_reducible refine condN_t ?_ ?_) <;> (intro hc; (try simp only [Bool.and_eq_true, Bool.or_eq_true, Bool.not_eq_true', Bool.and_eq_false_iff, Bool.or_eq_false_iff, decide_eq_true_eq, decide_eq_false_iff_not, bne_iff_ne, beq_iff_eq, reduceCtorEq, bne_eq_false_iff_eq, beq_eq_false_iff_ne, Bool.not_eq_false', Int.not_le, Int.not_lt, Bool.not_not] at hc); (try (exfalso; first | contradiction | omega))))
    | (with_reducible refine AW_regionP 0 [0] ?_)
    | (with_reducible refine AW_regionP 1 [1] ?_)
    | (with_reducible refine AW_regionP 2 [] ?_)
    | (with_reducible refine AW_regionP 3 [1] ?_)
    | (with_reducible refine AW_regionP 4 [] ?_)
    | (with_reducible refine AW_regionP 5 [] ?_)
    | (refine callN_q (k := 71) fnok_71 (svalid_p _ _ _ _ _ _ _ _ _ _ _) ?_ ?_)
    | (refine callGN_q (k := 75) fnok_75 (fun hg => isDepth_p _) ?_ ?_)
    | (refine callGN_q (k := 18) fnok_18 (fun hg => valid_p _ _ _ _ _) ?_ ?_)
    | (refine callN_q (k := 72) fnok_72 (sfits_p _ _ _ _ _ _ _ _ _ _ _ (by omega)) ?_ ?_)
    | ((fail_if_success (with_reducible show AW _ _ _ _)); simp (maxSteps := 2000000) only [go_sem, reduceIte, reduceCtorEq, Nat.reduceAdd, Nat.reduceLT, Nat.reduceLeDiff, Nat.reduceEqDiff, Nat.reduceMul, Nat.reduceSub, Nat.reduceBEq, Try.f79, ty_80, fnok_71, of_80_2, ty_3, fnok_75, of_80_3, ty_24, fnok_18, fnok_72, hk, hs, hx, ht])
    | ((with_reducible refine hK _ ?_); clear hK K))

set_option maxRecDepth 100000 in
set_option maxHeartbeats 4000000 in
theorem ready_0 (d m : Int) (q : Nat) (sq : Nat → Int) (v dp s st : Int) (n : Nat) (lo hi : Nat → Int) (hk : kval d m q sq = true) (hs : isSp v = true) (hx : isDp dp = true) (ht : tval s st n lo hi = true) (v0 : 0 ≤ v) (v1 : v ≤ 2000) (x0 : 0 ≤ dp) (x1 : dp ≤ 100000) (q1 : q ≤ 20) (c : v ≤ 100 * (q : Int)) : CallsP Try.prog 79 [sailP d m q sq v dp s st n lo hi] (.t (.one (.g (.int .i64 (0))))) := by
  refine CallsP_of Try.func79 rfl (by rw [Try.ntmps79]; simp) ?_
  simp only [Try.ntmps79, List.map_cons, List.map_nil, PT.tv, argEnv, Nat.zero_add, Nat.reduceAdd]
  repeat' (first
    | (with_reducible refine AW_seq_k fun K hK => ?_)
    | ((first | (with_reducible refine And.intro ?_ ?_) | (with_reducible refine Need.mk ?_)); focus (first | exact True.intro | (with_reducible assumption) | omega | (refine ⟨?_, ?_⟩ <;> omega) | (intro _; first | exact True.intro | (with_reducible assumption) | omega) | (intros; (repeat' (first | exact True.intro | omega | (with_reducible assumption) | (with_reducible refine And.intro ?_ ?_))); done) | (simp (disch := omega) only [Bool.and_eq_true, Bool.or_eq_true, decide_eq_true_eq, bne_iff_ne, ne_eq] at *; first | done | omega | (intros; omega)) | (simp; done) | (simp; omega) | (simp +contextual; done) | (intro h; rw [h]; rfl) | (intros; simp_all; done)))
    | (with_reducible refine AW_skip ?_)
    | (with_reducible refine AW_exit ?_)
    | (with_reducible refine AW_ret ?_)
    | (with_reducible refine retK_n ?_)
    | (with_reducible refine retK_n' ?_)
    | (with_reducible refine retH_n rfl rfl rfl ?_)
    | (with_reducible refine retH_n' rfl rfl rfl ?_)
    | (with_reducible refine AW_condI ?_)
    | (with_reducible refine AW_block ?_)
    | ((with_reducible refine condN_t ?_ ?_) <;> (intro hc; (try simp only [Bool.and_eq_true, Bool.or_eq_true, Bool.not_eq_true', Bool.and_eq_false_iff, Bool.or_eq_false_iff, decide_eq_true_eq, decide_eq_false_iff_not, bne_iff_ne, beq_iff_eq, reduceCtorEq, bne_eq_false_iff_eq, beq_eq_false_iff_ne, Bool.not_eq_false', Int.not_le, Int.not_lt, Bool.not_not] at hc); (try (exfalso; first | contradiction | omega))))
    | (with_reducible refine AW_regionP 0 [0] ?_)
    | (with_reducible refine AW_regionP 1 [1] ?_)
    | (with_reducible refine AW_regionP 2 [] ?_)
    | (with_reducible refine AW_regionP 3 [1] ?_)
    | (with_reducible refine AW_regionP 4 [] ?_)
    | (with_reducible refine AW_regionP 5 [] ?_)
    | (refine callN_q (k := 71) fnok_71 (svalid_p _ _ _ _ _ _ _ _ _ _ _) ?_ ?_)
    | (refine callGN_q (k := 75) fnok_75 (fun hg => isDepth_p _) ?_ ?_)
    | (refine callGN_q (k := 18) fnok_18 (fun hg => valid_p _ _ _ _ _) ?_ ?_)
    | (refine callN_q (k := 72) fnok_72 (sfits_p _ _ _ _ _ _ _ _ _ _ _ (by omega)) ?_ ?_)
    | ((fail_if_success (with_reducible show AW _ _ _ _)); simp (maxSteps := 2000000) only [go_sem, reduceIte, reduceCtorEq, Nat.reduceAdd, Nat.reduceLT, Nat.reduceLeDiff, Nat.reduceEqDiff, Nat.reduceMul, Nat.reduceSub, Nat.reduceBEq, Try.f79, ty_80, fnok_71, of_80_2, ty_3, fnok_75, of_80_3, ty_24, fnok_18, fnok_72, hk, hs, hx, ht])
    | ((with_reducible refine hK _ ?_); clear hK K))

theorem ready_p (d m : Int) (q : Nat) (sq : Nat → Int) (v dp s st : Int) (n : Nat) (lo hi : Nat → Int) : CallsP Try.prog 79 [sailP d m q sq v dp s st n lo hi] (.t (.one (.g (.int .i64 (rE d m q sq v dp s st n lo hi))))) := by
  rcases rE_c d m q sq v dp s st n lo hi with ⟨h, e⟩ | ⟨h1, h2, h3, h4, ⟨h5, h6, h7, h8, h9⟩, ⟨h10, e⟩ | ⟨h10, e⟩⟩
  · rw [e]; exact ready_1 d m q sq v dp s st n lo hi h
  · rw [e]; exact ready_3 d m q sq v dp s st n lo hi h1 h2 h3 h4 h5 h6 h7 h8 h9 h10
  · rw [e]; exact ready_0 d m q sq v dp s st n lo hi h1 h2 h3 h4 h5 h6 h7 h8 h9 h10
def kWS (d m : Int) (q : Nat) (sq : Nat → Int) (v dp s st : Int) (n : Nat) (lo hi : Nat → Int) : List (Int × Int) := if rE d m q sq v dp s st n lo hi = 0 then WS s st n lo hi (needV d m sq v - dp) else []
def kWE (d m : Int) (q : Nat) (sq : Nat → Int) (v dp s st : Int) (n : Nat) (lo hi : Nat → Int) : Int := if rE d m q sq v dp s st n lo hi = 0 then WE s st n lo hi (needV d m sq v - dp) else rE d m q sq v dp s st n lo hi
def vE (d m : Int) (q : Nat) (sq : Nat → Int) (v dp s st : Int) (n : Nat) (lo hi : Nat → Int) (f long : Int) : Int := if rE d m q sq v dp s st n lo hi = 1 ∨ tm f = false ∨ tm long = false then 1 else if rE d m q sq v dp s st n lo hi = 0 then NE s st n lo hi (needV d m sq v - dp) f long else rE d m q sq v dp s st n lo hi
def vV (d m : Int) (q : Nat) (sq : Nat → Int) (v dp s st : Int) (n : Nat) (lo hi : Nat → Int) (f long : Int) : Int := if rE d m q sq v dp s st n lo hi = 1 ∨ tm f = false ∨ tm long = false then 0 else if rE d m q sq v dp s st n lo hi = 0 then NV s st n lo hi (needV d m sq v - dp) f long else 0

set_option maxRecDepth 100000 in
set_option maxHeartbeats 4000000 in
theorem kwin_e (d m : Int) (q : Nat) (sq : Nat → Int) (v dp s st : Int) (n : Nat) (lo hi : Nat → Int) (e : rE d m q sq v dp s st n lo hi ≠ 0) : CallsP Try.prog 42 [shipP d m q sq, tideP s st n lo hi, .one (.g (.int .i64 (dp))), .one (.g (.int .i64 (v)))] (.tup [.one (.lst 2 (([] : List (Int × Int))).length (spanF (L1 (([] : List (Int × Int)))) (L2 (([] : List (Int × Int)))))), .one (.g (.int .i64 (rE d m q sq v dp s st n lo hi)))]) := by
  refine CallsP_of Try.func42 rfl (by rw [Try.ntmps42]; simp) ?_
  simp only [Try.ntmps42, List.map_cons, List.map_nil, PT.tv, argEnv, Nat.zero_add, Nat.reduceAdd]
  repeat' (first
    | (with_reducible refine AW_seq_k fun K hK => ?_)
    | ((first | (with_reducible refine And.intro ?_ ?_) | (with_reducible refine Need.mk ?_)); focus (first | exact True.intro | (with_reducible assumption) | omega | (refine ⟨?_, ?_⟩ <;> omega) | (intro _; first | exact True.intro | (with_reducible assumption) | omega) | (intros; (repeat' (first | exact True.intro | omega | (with_reducible assumption) | (with_reducible refine And.intro ?_ ?_))); done) | (simp (disch := omega) only [Bool.and_eq_true, Bool.or_eq_true, decide_eq_true_eq, bne_iff_ne, ne_eq] at *; first | done | omega | (intros; omega)) | (simp; done) | (simp; omega) | (simp +contextual; done) | (intro h; rw [h]; rfl) | (intros; simp_all; done)))
    | (with_reducible refine AW_skip ?_)
    | (with_reducible refine AW_exit ?_)
    | (with_reducible refine AW_ret ?_)
    | (with_reducible refine retK_n ?_)
    | (with_reducible refine retK_n' ?_)
    | (with_reducible refine retH_n rfl rfl rfl ?_)
    | (with_reducible refine retH_n' rfl rfl rfl ?_)
    | (with_reducible refine AW_condI ?_)
    | (with_reducible refine AW_block ?_)
    | ((with_reducible refine condN_t ?_ ?_) <;> (intro hc; (try simp only [Bool.and_eq_true, Bool.or_eq_true, Bool.not_eq_true', Bool.and_eq_false_iff, Bool.or_eq_false_iff, decide_eq_true_eq, decide_eq_false_iff_not, bne_iff_ne, beq_iff_eq, reduceCtorEq, bne_eq_false_iff_eq, beq_eq_false_iff_ne, Bool.not_eq_false', Int.not_le, Int.not_lt, Bool.not_not] at hc); (try (exfalso; first | contradiction | omega))))
    | (with_reducible refine AW_regionP 0 [0, 1, 2, 3] ?_)
    | (with_reducible refine AW_regionP 1 [2, 3, 4, 5] ?_)
    | (with_reducible refine AW_regionP 2 [2, 5, 10] ?_)
    | (with_reducible refine AW_regionP 3 [2, 5, 10, 11] ?_)
    | (with_reducible refine AW_regionP 4 [11] ?_)
    | ((with_reducible refine AW_prune (c := Code.region 5 _ true) [2, 5, 10] ?_); (with_reducible refine AW_regionD ?_ ?_ ?_ ?_); (focus kernel_rfl); (focus kernel_rfl); (focus kernel_rfl))
    | ((with_reducible refine And.intro ?_ ?_); focus ((with_reducible show chkR _ _ _ = true); kernel_rfl))
    | (refine callN_q (k := 79) fnok_79 (ready_p _ _ _ _ _ _ _ _ _ _ _) ?_ ?_)
    | ((fail_if_success (with_reducible show AW _ _ _ _)); simp (maxSteps := 2000000) only [go_sem, reduceIte, reduceCtorEq, Nat.reduceAdd, Nat.reduceLT, Nat.reduceLeDiff, Nat.reduceEqDiff, Nat.reduceMul, Nat.reduceSub, Nat.reduceBEq, Try.f42, ty_45, ty_24, zc_80, fo_80, pl_80_0, pl_80_1, pl_80_2, pl_80_3, ty_80, fnok_79, fnok_73, fnok_15])
    | ((fail_if_success (with_reducible show AW _ _ _ _)); simp (disch := omega) only [seaWrap, seaDiv, seaMod])
    | ((with_reducible refine hK _ ?_); clear hK K))
  all_goals (first | omega | (simp_all; done) | exact ⟨⟨rfl, rfl⟩, rfl⟩ | skip)

set_option maxRecDepth 100000 in
set_option maxHeartbeats 4000000 in
theorem kwin_0 (d m : Int) (q : Nat) (sq : Nat → Int) (v dp s st : Int) (n : Nat) (lo hi : Nat → Int) (e : rE d m q sq v dp s st n lo hi = 0) (hk : kval d m q sq = true) (hs : isSp v = true) (hx : isDp dp = true) (ht : tval s st n lo hi = true) (v0 : 0 ≤ v) (v1 : v ≤ 2000) (x0 : 0 ≤ dp) (x1 : dp ≤ 100000) (q1 : q ≤ 20) (c : v ≤ 100 * (q : Int)) (b0 : 0 ≤ needV d m sq v) (b1 : needV d m sq v ≤ 3000) : CallsP Try.prog 42 [shipP d m q sq, tideP s st n lo hi, .one (.g (.int .i64 (dp))), .one (.g (.int .i64 (v)))] (.tup [.one (.lst 2 (WS s st n lo hi (needV d m sq v - dp)).length (spanF (L1 (WS s st n lo hi (needV d m sq v - dp))) (L2 (WS s st n lo hi (needV d m sq v - dp))))), .one (.g (.int .i64 (WE s st n lo hi (needV d m sq v - dp))))]) := by
  refine CallsP_of Try.func42 rfl (by rw [Try.ntmps42]; simp) ?_
  simp only [Try.ntmps42, List.map_cons, List.map_nil, PT.tv, argEnv, Nat.zero_add, Nat.reduceAdd]
  repeat' (first
    | (with_reducible refine AW_seq_k fun K hK => ?_)
    | ((first | (with_reducible refine And.intro ?_ ?_) | (with_reducible refine Need.mk ?_)); focus (first | exact True.intro | (with_reducible assumption) | omega | (refine ⟨?_, ?_⟩ <;> omega) | (intro _; first | exact True.intro | (with_reducible assumption) | omega) | (intros; (repeat' (first | exact True.intro | omega | (with_reducible assumption) | (with_reducible refine And.intro ?_ ?_))); done) | (simp (disch := omega) only [Bool.and_eq_true, Bool.or_eq_true, decide_eq_true_eq, bne_iff_ne, ne_eq] at *; first | done | omega | (intros; omega)) | (simp; done) | (simp; omega) | (simp +contextual; done) | (intro h; rw [h]; rfl) | (intros; simp_all; done)))
    | (with_reducible refine AW_skip ?_)
    | (with_reducible refine AW_exit ?_)
    | (with_reducible refine AW_ret ?_)
    | (with_reducible refine retK_n ?_)
    | (with_reducible refine retK_n' ?_)
    | (with_reducible refine retH_n rfl rfl rfl ?_)
    | (with_reducible refine retH_n' rfl rfl rfl ?_)
    | (with_reducible refine AW_condI ?_)
    | (with_reducible refine AW_block ?_)
    | ((with_reducible refine condN_t ?_ ?_) <;> (intro hc; (try simp only [Bool.and_eq_true, Bool.or_eq_true, Bool.not_eq_true', Bool.and_eq_false_iff, Bool.or_eq_false_iff, decide_eq_true_eq, decide_eq_false_iff_not, bne_iff_ne, beq_iff_eq, reduceCtorEq, bne_eq_false_iff_eq, beq_eq_false_iff_ne, Bool.not_eq_false', Int.not_le, Int.not_lt, Bool.not_not] at hc); (try (exfalso; first | contradiction | omega))))
    | (with_reducible refine AW_regionP 0 [0, 1, 2, 3] ?_)
    | (with_reducible refine AW_regionP 1 [2, 3, 4, 5] ?_)
    | (with_reducible refine AW_regionP 2 [2, 5, 10] ?_)
    | (with_reducible refine AW_regionP 3 [2, 5, 10, 11] ?_)
    | (with_reducible refine AW_regionP 4 [11] ?_)
    | ((with_reducible refine AW_prune (c := Code.region 5 _ true) [2, 5, 10] ?_); (with_reducible refine AW_regionD ?_ ?_ ?_ ?_); (focus kernel_rfl); (focus kernel_rfl); (focus kernel_rfl))
    | ((with_reducible refine And.intro ?_ ?_); focus ((with_reducible show chkR _ _ _ = true); kernel_rfl))
    | (refine callN_q (k := 79) fnok_79 (ready_p _ _ _ _ _ _ _ _ _ _ _) ?_ ?_)
    | (refine callDN_q (k := 73) fnok_73 (sneed_p _ _ _ _ _ _ _ _ _ _ _ hk v0 c) ?_ ?_)
    | (refine callDN_q (k := 15) fnok_15 (windows_p _ _ _ _ _ _) ?_ ?_)
    | ((fail_if_success (with_reducible show AW _ _ _ _)); simp (maxSteps := 2000000) only [go_sem, reduceIte, reduceCtorEq, Nat.reduceAdd, Nat.reduceLT, Nat.reduceLeDiff, Nat.reduceEqDiff, Nat.reduceMul, Nat.reduceSub, Nat.reduceBEq, Try.f42, ty_45, ty_24, zc_80, fo_80, pl_80_0, pl_80_1, pl_80_2, pl_80_3, ty_80, fnok_79, fnok_73, fnok_15, e])
    | ((fail_if_success (with_reducible show AW _ _ _ _)); simp (disch := omega) only [seaWrap, seaDiv, seaMod])
    | ((with_reducible refine hK _ ?_); clear hK K))
  all_goals exact fun i o _ _ => IV.eqv_refl _

set_option maxRecDepth 100000 in
set_option maxHeartbeats 4000000 in
theorem kleave_1 (d m : Int) (q : Nat) (sq : Nat → Int) (v dp s st : Int) (n : Nat) (lo hi : Nat → Int) (f long : Int) (e : rE d m q sq v dp s st n lo hi = 1) : CallsP Try.prog 44 [shipP d m q sq, tideP s st n lo hi, .one (.g (.int .i64 (dp))), .one (.g (.int .i64 (v))), .one (.g (.int .i64 (f))), .one (.g (.int .i64 (long)))] (.tup [.one (.g (.int .i64 (0))), .one (.g (.int .i64 (1)))]) := by
  refine CallsP_of Try.func44 rfl (by rw [Try.ntmps44]; simp) ?_
  simp only [Try.ntmps44, List.map_cons, List.map_nil, PT.tv, argEnv, Nat.zero_add, Nat.reduceAdd]
  repeat' (first
    | (with_reducible refine AW_seq_k fun K hK => ?_)
    | ((first | (with_reducible refine And.intro ?_ ?_) | (with_reducible refine Need.mk ?_)); focus (first | exact True.intro | (with_reducible assumption) | omega | (refine ⟨?_, ?_⟩ <;> omega) | (intro _; first | exact True.intro | (with_reducible assumption) | omega) | (intros; (repeat' (first | exact True.intro | omega | (with_reducible assumption) | (with_reducible refine And.intro ?_ ?_))); done) | (simp (disch := omega) only [Bool.and_eq_true, Bool.or_eq_true, decide_eq_true_eq, bne_iff_ne, ne_eq] at *; first | done | omega | (intros; omega)) | (simp; done) | (simp; omega) | (simp +contextual; done) | (intro h; rw [h]; rfl) | (intros; simp_all; done)))
    | (with_reducible refine AW_skip ?_)
    | (with_reducible refine AW_exit ?_)
    | (with_reducible refine AW_ret ?_)
    | (with_reducible refine retK_n ?_)
    | (with_reducible refine retK_n' ?_)
    | (with_reducible refine retH_n rfl rfl rfl ?_)
    | (with_reducible refine retH_n' rfl rfl rfl ?_)
    | (with_reducible refine AW_condI ?_)
    | (with_reducible refine AW_block ?_)
    | ((with_reducible refine condN_t ?_ ?_) <;> (intro hc; (try simp only [Bool.and_eq_true, Bool.or_eq_true, Bool.not_eq_true', Bool.and_eq_false_iff, Bool.or_eq_false_iff, decide_eq_true_eq, decide_eq_false_iff_not, bne_iff_ne, beq_iff_eq, reduceCtorEq, bne_eq_false_iff_eq, beq_eq_false_iff_ne, Bool.not_eq_false', Int.not_le, Int.not_lt, Bool.not_not] at hc); (try (exfalso; first | contradiction | omega))))
    | (with_reducible refine AW_regionP 0 [0, 1, 2, 3, 4, 5] ?_)
    | (with_reducible refine AW_regionP 1 [2, 3, 4, 5, 6, 7] ?_)
    | (with_reducible refine AW_regionP 2 [2, 4, 5, 7, 14] ?_)
    | (with_reducible refine AW_regionP 3 [2, 4, 5, 7, 14, 15] ?_)
    | (with_reducible refine AW_regionP 4 [] ?_)
    | (with_reducible refine AW_regionP 5 [2, 4, 5, 7, 14, 15] ?_)
    | (with_reducible refine AW_regionP 6 [15] ?_)
    | ((with_reducible refine AW_prune (c := Code.region 7 _ true) [2, 4, 5, 7, 14] ?_); (with_reducible refine AW_regionD ?_ ?_ ?_ ?_); (focus kernel_rfl); (focus kernel_rfl); (focus kernel_rfl))
    | ((with_reducible refine And.intro ?_ ?_); focus ((with_reducible show chkR _ _ _ = true); kernel_rfl))
    | (refine callN_q (k := 79) fnok_79 (ready_p _ _ _ _ _ _ _ _ _ _ _) ?_ ?_)
    | ((fail_if_success (with_reducible show AW _ _ _ _)); simp (maxSteps := 2000000) only [go_sem, reduceIte, reduceCtorEq, Nat.reduceAdd, Nat.reduceLT, Nat.reduceLeDiff, Nat.reduceEqDiff, Nat.reduceMul, Nat.reduceSub, Nat.reduceBEq, Try.f44, ty_45, ty_24, zc_80, fo_80, pl_80_0, pl_80_1, pl_80_2, pl_80_3, ty_80, fnok_79, fnok_73, fnok_16, e])
    | ((fail_if_success (with_reducible show AW _ _ _ _)); simp (disch := omega) only [seaWrap, seaDiv, seaMod])
    | ((with_reducible refine hK _ ?_); clear hK K))

set_option maxRecDepth 100000 in
set_option maxHeartbeats 4000000 in
theorem kleave_2 (d m : Int) (q : Nat) (sq : Nat → Int) (v dp s st : Int) (n : Nat) (lo hi : Nat → Int) (f long : Int) (h : ¬ (0 ≤ f ∧ f ≤ 10000000 ∧ 0 ≤ long ∧ long ≤ 10000000)) : CallsP Try.prog 44 [shipP d m q sq, tideP s st n lo hi, .one (.g (.int .i64 (dp))), .one (.g (.int .i64 (v))), .one (.g (.int .i64 (f))), .one (.g (.int .i64 (long)))] (.tup [.one (.g (.int .i64 (0))), .one (.g (.int .i64 (1)))]) := by
  refine CallsP_of Try.func44 rfl (by rw [Try.ntmps44]; simp) ?_
  simp only [Try.ntmps44, List.map_cons, List.map_nil, PT.tv, argEnv, Nat.zero_add, Nat.reduceAdd]
  repeat' (first
    | (with_reducible refine AW_seq_k fun K hK => ?_)
    | ((first | (with_reducible refine And.intro ?_ ?_) | (with_reducible refine Need.mk ?_)); focus (first | exact True.intro | (with_reducible assumption) | omega | (refine ⟨?_, ?_⟩ <;> omega) | (intro _; first | exact True.intro | (with_reducible assumption) | omega) | (intros; (repeat' (first | exact True.intro | omega | (with_reducible assumption) | (with_reducible refine And.intro ?_ ?_))); done) | (simp (disch := omega) only [Bool.and_eq_true, Bool.or_eq_true, decide_eq_true_eq, bne_iff_ne, ne_eq] at *; first | done | omega | (intros; omega)) | (simp; done) | (simp; omega) | (simp +contextual; done) | (intro h; rw [h]; rfl) | (intros; simp_all; done)))
    | (with_reducible refine AW_skip ?_)
    | (with_reducible refine AW_exit ?_)
    | (with_reducible refine AW_ret ?_)
    | (with_reducible refine retK_n ?_)
    | (with_reducible refine retK_n' ?_)
    | (with_reducible refine retH_n rfl rfl rfl ?_)
    | (with_reducible refine retH_n' rfl rfl rfl ?_)
    | (with_reducible refine AW_condI ?_)
    | (with_reducible refine AW_block ?_)
    | ((with_reducible refine condN_t ?_ ?_) <;> (intro hc; (try simp only [Bool.and_eq_true, Bool.or_eq_true, Bool.not_eq_true', Bool.and_eq_false_iff, Bool.or_eq_false_iff, decide_eq_true_eq, decide_eq_false_iff_not, bne_iff_ne, beq_iff_eq, reduceCtorEq, bne_eq_false_iff_eq, beq_eq_false_iff_ne, Bool.not_eq_false', Int.not_le, Int.not_lt, Bool.not_not] at hc); (try (exfalso; first | contradiction | omega))))
    | (with_reducible refine AW_regionP 0 [0, 1, 2, 3, 4, 5] ?_)
    | (with_reducible refine AW_regionP 1 [2, 3, 4, 5, 6, 7] ?_)
    | (with_reducible refine AW_regionP 2 [2, 4, 5, 7, 14] ?_)
    | (with_reducible refine AW_regionP 3 [2, 4, 5, 7, 14, 15] ?_)
    | (with_reducible refine AW_regionP 4 [] ?_)
    | (with_reducible refine AW_regionP 5 [2, 4, 5, 7, 14, 15] ?_)
    | (with_reducible refine AW_regionP 6 [15] ?_)
    | ((with_reducible refine AW_prune (c := Code.region 7 _ true) [2, 4, 5, 7, 14] ?_); (with_reducible refine AW_regionD ?_ ?_ ?_ ?_); (focus kernel_rfl); (focus kernel_rfl); (focus kernel_rfl))
    | ((with_reducible refine And.intro ?_ ?_); focus ((with_reducible show chkR _ _ _ = true); kernel_rfl))
    | (refine callN_q (k := 79) fnok_79 (ready_p _ _ _ _ _ _ _ _ _ _ _) ?_ ?_)
    | ((fail_if_success (with_reducible show AW _ _ _ _)); simp (maxSteps := 2000000) only [go_sem, reduceIte, reduceCtorEq, Nat.reduceAdd, Nat.reduceLT, Nat.reduceLeDiff, Nat.reduceEqDiff, Nat.reduceMul, Nat.reduceSub, Nat.reduceBEq, Try.f44, ty_45, ty_24, zc_80, fo_80, pl_80_0, pl_80_1, pl_80_2, pl_80_3, ty_80, fnok_79, fnok_73, fnok_16])
    | ((fail_if_success (with_reducible show AW _ _ _ _)); simp (disch := omega) only [seaWrap, seaDiv, seaMod])
    | ((with_reducible refine hK _ ?_); clear hK K))
  all_goals (first | omega | (simp_all; omega))

set_option maxRecDepth 100000 in
set_option maxHeartbeats 4000000 in
theorem kleave_3 (d m : Int) (q : Nat) (sq : Nat → Int) (v dp s st : Int) (n : Nat) (lo hi : Nat → Int) (f long : Int) (e : rE d m q sq v dp s st n lo hi = 3) (f0 : 0 ≤ f) (f1 : f ≤ 10000000) (l0 : 0 ≤ long) (l1 : long ≤ 10000000) : CallsP Try.prog 44 [shipP d m q sq, tideP s st n lo hi, .one (.g (.int .i64 (dp))), .one (.g (.int .i64 (v))), .one (.g (.int .i64 (f))), .one (.g (.int .i64 (long)))] (.tup [.one (.g (.int .i64 (0))), .one (.g (.int .i64 (3)))]) := by
  refine CallsP_of Try.func44 rfl (by rw [Try.ntmps44]; simp) ?_
  simp only [Try.ntmps44, List.map_cons, List.map_nil, PT.tv, argEnv, Nat.zero_add, Nat.reduceAdd]
  repeat' (first
    | (with_reducible refine AW_seq_k fun K hK => ?_)
    | ((first | (with_reducible refine And.intro ?_ ?_) | (with_reducible refine Need.mk ?_)); focus (first | exact True.intro | (with_reducible assumption) | omega | (refine ⟨?_, ?_⟩ <;> omega) | (intro _; first | exact True.intro | (with_reducible assumption) | omega) | (intros; (repeat' (first | exact True.intro | omega | (with_reducible assumption) | (with_reducible refine And.intro ?_ ?_))); done) | (simp (disch := omega) only [Bool.and_eq_true, Bool.or_eq_true, decide_eq_true_eq, bne_iff_ne, ne_eq] at *; first | done | omega | (intros; omega)) | (simp; done) | (simp; omega) | (simp +contextual; done) | (intro h; rw [h]; rfl) | (intros; simp_all; done)))
    | (with_reducible refine AW_skip ?_)
    | (with_reducible refine AW_exit ?_)
    | (with_reducible refine AW_ret ?_)
    | (with_reducible refine retK_n ?_)
    | (with_reducible refine retK_n' ?_)
    | (with_reducible refine retH_n rfl rfl rfl ?_)
    | (with_reducible refine retH_n' rfl rfl rfl ?_)
    | (with_reducible refine AW_condI ?_)
    | (with_reducible refine AW_block ?_)
    | ((with_reducible refine condN_t ?_ ?_) <;> (intro hc; (try simp only [Bool.and_eq_true, Bool.or_eq_true, Bool.not_eq_true', Bool.and_eq_false_iff, Bool.or_eq_false_iff, decide_eq_true_eq, decide_eq_false_iff_not, bne_iff_ne, beq_iff_eq, reduceCtorEq, bne_eq_false_iff_eq, beq_eq_false_iff_ne, Bool.not_eq_false', Int.not_le, Int.not_lt, Bool.not_not] at hc); (try (exfalso; first | contradiction | omega))))
    | (with_reducible refine AW_regionP 0 [0, 1, 2, 3, 4, 5] ?_)
    | (with_reducible refine AW_regionP 1 [2, 3, 4, 5, 6, 7] ?_)
    | (with_reducible refine AW_regionP 2 [2, 4, 5, 7, 14] ?_)
    | (with_reducible refine AW_regionP 3 [2, 4, 5, 7, 14, 15] ?_)
    | (with_reducible refine AW_regionP 4 [] ?_)
    | (with_reducible refine AW_regionP 5 [2, 4, 5, 7, 14, 15] ?_)
    | (with_reducible refine AW_regionP 6 [15] ?_)
    | ((with_reducible refine AW_prune (c := Code.region 7 _ true) [2, 4, 5, 7, 14] ?_); (with_reducible refine AW_regionD ?_ ?_ ?_ ?_); (focus kernel_rfl); (focus kernel_rfl); (focus kernel_rfl))
    | ((with_reducible refine And.intro ?_ ?_); focus ((with_reducible show chkR _ _ _ = true); kernel_rfl))
    | (refine callN_q (k := 79) fnok_79 (ready_p _ _ _ _ _ _ _ _ _ _ _) ?_ ?_)
    | ((fail_if_success (with_reducible show AW _ _ _ _)); simp (maxSteps := 2000000) only [go_sem, reduceIte, reduceCtorEq, Nat.reduceAdd, Nat.reduceLT, Nat.reduceLeDiff, Nat.reduceEqDiff, Nat.reduceMul, Nat.reduceSub, Nat.reduceBEq, Try.f44, ty_45, ty_24, zc_80, fo_80, pl_80_0, pl_80_1, pl_80_2, pl_80_3, ty_80, fnok_79, fnok_73, fnok_16, e])
    | ((fail_if_success (with_reducible show AW _ _ _ _)); simp (disch := omega) only [seaWrap, seaDiv, seaMod])
    | ((with_reducible refine hK _ ?_); clear hK K))

set_option maxRecDepth 100000 in
set_option maxHeartbeats 4000000 in
theorem kleave_0 (d m : Int) (q : Nat) (sq : Nat → Int) (v dp s st : Int) (n : Nat) (lo hi : Nat → Int) (f long : Int) (e : rE d m q sq v dp s st n lo hi = 0) (f0 : 0 ≤ f) (f1 : f ≤ 10000000) (l0 : 0 ≤ long) (l1 : long ≤ 10000000) (hk : kval d m q sq = true) (hs : isSp v = true) (hx : isDp dp = true) (ht : tval s st n lo hi = true) (v0 : 0 ≤ v) (v1 : v ≤ 2000) (x0 : 0 ≤ dp) (x1 : dp ≤ 100000) (q1 : q ≤ 20) (c : v ≤ 100 * (q : Int)) (b0 : 0 ≤ needV d m sq v) (b1 : needV d m sq v ≤ 3000) : CallsP Try.prog 44 [shipP d m q sq, tideP s st n lo hi, .one (.g (.int .i64 (dp))), .one (.g (.int .i64 (v))), .one (.g (.int .i64 (f))), .one (.g (.int .i64 (long)))] (.tup [.one (.g (.int .i64 (NV s st n lo hi (needV d m sq v - dp) f long))), .one (.g (.int .i64 (NE s st n lo hi (needV d m sq v - dp) f long)))]) := by
  refine CallsP_of Try.func44 rfl (by rw [Try.ntmps44]; simp) ?_
  simp only [Try.ntmps44, List.map_cons, List.map_nil, PT.tv, argEnv, Nat.zero_add, Nat.reduceAdd]
  repeat' (first
    | (with_reducible refine AW_seq_k fun K hK => ?_)
    | ((first | (with_reducible refine And.intro ?_ ?_) | (with_reducible refine Need.mk ?_)); focus (first | exact True.intro | (with_reducible assumption) | omega | (refine ⟨?_, ?_⟩ <;> omega) | (intro _; first | exact True.intro | (with_reducible assumption) | omega) | (intros; (repeat' (first | exact True.intro | omega | (with_reducible assumption) | (with_reducible refine And.intro ?_ ?_))); done) | (simp (disch := omega) only [Bool.and_eq_true, Bool.or_eq_true, decide_eq_true_eq, bne_iff_ne, ne_eq] at *; first | done | omega | (intros; omega)) | (simp; done) | (simp; omega) | (simp +contextual; done) | (intro h; rw [h]; rfl) | (intros; simp_all; done)))
    | (with_reducible refine AW_skip ?_)
    | (with_reducible refine AW_exit ?_)
    | (with_reducible refine AW_ret ?_)
    | (with_reducible refine retK_n ?_)
    | (with_reducible refine retK_n' ?_)
    | (with_reducible refine retH_n rfl rfl rfl ?_)
    | (with_reducible refine retH_n' rfl rfl rfl ?_)
    | (with_reducible refine AW_condI ?_)
    | (with_reducible refine AW_block ?_)
    | ((with_reducible refine condN_t ?_ ?_) <;> (intro hc; (try simp only [Bool.and_eq_true, Bool.or_eq_true, Bool.not_eq_true', Bool.and_eq_false_iff, Bool.or_eq_false_iff, decide_eq_true_eq, decide_eq_false_iff_not, bne_iff_ne, beq_iff_eq, reduceCtorEq, bne_eq_false_iff_eq, beq_eq_false_iff_ne, Bool.not_eq_false', Int.not_le, Int.not_lt, Bool.not_not] at hc); (try (exfalso; first | contradiction | omega))))
    | (with_reducible refine AW_regionP 0 [0, 1, 2, 3, 4, 5] ?_)
    | (with_reducible refine AW_regionP 1 [2, 3, 4, 5, 6, 7] ?_)
    | (with_reducible refine AW_regionP 2 [2, 4, 5, 7, 14] ?_)
    | (with_reducible refine AW_regionP 3 [2, 4, 5, 7, 14, 15] ?_)
    | (with_reducible refine AW_regionP 4 [] ?_)
    | (with_reducible refine AW_regionP 5 [2, 4, 5, 7, 14, 15] ?_)
    | (with_reducible refine AW_regionP 6 [15] ?_)
    | ((with_reducible refine AW_prune (c := Code.region 7 _ true) [2, 4, 5, 7, 14] ?_); (with_reducible refine AW_regionD ?_ ?_ ?_ ?_); (focus kernel_rfl); (focus kernel_rfl); (focus kernel_rfl))
    | ((with_reducible refine And.intro ?_ ?_); focus ((with_reducible show chkR _ _ _ = true); kernel_rfl))
    | (refine callN_q (k := 79) fnok_79 (ready_p _ _ _ _ _ _ _ _ _ _ _) ?_ ?_)
    | (refine callDN_q (k := 73) fnok_73 (sneed_p _ _ _ _ _ _ _ _ _ _ _ hk v0 c) ?_ ?_)
    | (refine callDN_q (k := 16) fnok_16 (tnext_p _ _ _ _ _ _ _ _) ?_ ?_)
    | ((fail_if_success (with_reducible show AW _ _ _ _)); simp (maxSteps := 2000000) only [go_sem, reduceIte, reduceCtorEq, Nat.reduceAdd, Nat.reduceLT, Nat.reduceLeDiff, Nat.reduceEqDiff, Nat.reduceMul, Nat.reduceSub, Nat.reduceBEq, Try.f44, ty_45, ty_24, zc_80, fo_80, pl_80_0, pl_80_1, pl_80_2, pl_80_3, ty_80, fnok_79, fnok_73, fnok_16, e])
    | ((fail_if_success (with_reducible show AW _ _ _ _)); simp (disch := omega) only [seaWrap, seaDiv, seaMod])
    | ((with_reducible refine hK _ ?_); clear hK K))

theorem tm_no {f : Int} (h : tm f = false) : ¬ (0 ≤ f ∧ f ≤ 10000000) := of_decide_eq_false h
theorem kwin_p (d m : Int) (q : Nat) (sq : Nat → Int) (v dp s st : Int) (n : Nat) (lo hi : Nat → Int) : CallsP Try.prog 42 [shipP d m q sq, tideP s st n lo hi, .one (.g (.int .i64 (dp))), .one (.g (.int .i64 (v)))] (.tup [.one (.lst 2 (kWS d m q sq v dp s st n lo hi).length (spanF (L1 (kWS d m q sq v dp s st n lo hi)) (L2 (kWS d m q sq v dp s st n lo hi)))), .one (.g (.int .i64 (kWE d m q sq v dp s st n lo hi)))]) := by
  unfold kWS kWE
  rcases rE_c d m q sq v dp s st n lo hi with ⟨h, e⟩ | ⟨h1, h2, h3, h4, ⟨h5, h6, h7, h8, h9⟩, ⟨h10, e⟩ | ⟨h10, e⟩⟩
  · have r := kwin_e d m q sq v dp s st n lo hi (by omega)
    simp only [e, Int.reduceEq, if_false] at r ⊢; exact r
  · have r := kwin_e d m q sq v dp s st n lo hi (by omega)
    simp only [e, Int.reduceEq, if_false] at r ⊢; exact r
  · have b := needV_bd h1 h5 h10
    have r := kwin_0 d m q sq v dp s st n lo hi e h1 h2 h3 h4 h5 h6 h7 h8 h9 h10 b.1 b.2.1
    simp only [e, if_true]; exact r
theorem kleave_p (d m : Int) (q : Nat) (sq : Nat → Int) (v dp s st : Int) (n : Nat) (lo hi : Nat → Int) (f long : Int) : CallsP Try.prog 44 [shipP d m q sq, tideP s st n lo hi, .one (.g (.int .i64 (dp))), .one (.g (.int .i64 (v))), .one (.g (.int .i64 (f))), .one (.g (.int .i64 (long)))] (.tup [.one (.g (.int .i64 (vV d m q sq v dp s st n lo hi f long))), .one (.g (.int .i64 (vE d m q sq v dp s st n lo hi f long)))]) := by
  unfold vV vE
  cases hf : tm f with
  | false =>
    simp only [true_or, or_true, if_true]
    exact kleave_2 d m q sq v dp s st n lo hi f long (fun h => tm_no hf ⟨h.1, h.2.1⟩)
  | true =>
    cases hl : tm long with
    | false =>
      simp only [or_true, if_true]
      exact kleave_2 d m q sq v dp s st n lo hi f long (fun h => tm_no hl h.2.2)
    | true =>
      have a := tm_bd hf
      have b := tm_bd hl
      rcases rE_c d m q sq v dp s st n lo hi with ⟨h, e⟩ | ⟨h1, h2, h3, h4, ⟨h5, h6, h7, h8, h9⟩, ⟨h10, e⟩ | ⟨h10, e⟩⟩
      · simp only [e, true_or, if_true]; exact kleave_1 d m q sq v dp s st n lo hi f long e
      · simp only [e, Int.reduceEq, Bool.true_eq_false, or_self, if_false]; exact kleave_3 d m q sq v dp s st n lo hi f long e a.1 a.2 b.1 b.2
      · have c := needV_bd h1 h5 h10
        simp only [e, Int.reduceEq, Bool.true_eq_false, or_self, if_false, if_true]
        exact kleave_0 d m q sq v dp s st n lo hi f long e a.1 a.2 b.1 b.2 h1 h2 h3 h4 h5 h6 h7 h8 h9 h10 c.1 c.2.1

end Go.Proofs.Ythfnmooeijneoaa
