/- B: walks on abstract states. -/
import Derived.Test.YtifoncmlelinjaaA
set_option linter.unusedVariables false
set_option linter.unusedSimpArgs false
namespace Go.Proofs.Ytifoncmlelinjaa
open Go.RowKit Go.Sea
attribute [local go_sem] callK_N gf gk gdrop lkL setL lsF ltAll rdyL bodyF roundQ roundS loopQ loopS jumpOf inLs yV yA bAV zipPut purgeG List.tail_cons Option.isNone_none Option.isNone_some callGK_f callDK_f callDGK_f retN retHN blockA arun_nil arun_plain arun_guard plainF guardF guardB arunD_nil arunD_plain arunD_guard plainDF guardDF guardDB AS.ent Eff.noApp Eff.tgt ftF AV.refs TV.refs CV.refs LV.refs Op.operands Call.operands List.append_toArray List.push_toArray List.flatMap_cons List.flatMap_nil List.toList_toArray Option.toArray nidF nidA List.reverse_cons List.reverse_nil opF AS.ev constA lk AS.get AV.tv AV.nd AS.eff AS.put argEnv PT.tv PV.av AV.mbOf hset hget TV.cells dstOk thenA gB isB toB TV.bool? TV.int? intF loadF storeF fieldF indexF lenF sliceF optI appF minmaxF ipCells fillF partsF lvsF TV.lv LV.tv purgeE purgeC purgeH AV.purge CV.purge AV.has TV.has CV.has LV.has calleeF argsF tvsF toPT toIV toIVs toPTs toPV iA bA List.map_cons List.map_nil List.length_nil List.length_cons List.getElem?_cons_zero List.getElem?_cons_succ List.getElem?_nil Option.getD_some Option.getD_none Option.bind_some Option.bind_none List.take_succ_cons List.take_zero List.drop_succ_cons List.drop_zero List.take_nil List.drop_nil List.cons_append List.nil_append List.append_nil List.getD_cons_zero List.getD_cons_succ Option.map_some Option.map_none Option.isSome_some Option.isSome_none List.size_toArray List.any_cons List.any_nil List.mem_cons if_true if_false ite_true ite_false cond_true cond_false Nat.zero_add Nat.add_zero Nat.sub_zero Nat.le_refl Nat.zero_mul Nat.mul_zero Nat.one_mul Nat.mul_one Int.toNat_zero Int.toNat_natCast Bool.or_false Bool.false_or Bool.or_true Bool.true_or Bool.and_true Bool.true_and Bool.and_false Bool.false_and beq_self_eq_true beq_true beq_false Bool.not_true Bool.not_false and_true true_and and_false false_and and_self imp_self Bool.cond_false_right Bool.cond_true_left implies_true forall_const true_implies false_implies Option.some.injEq Prod.mk.injEq ne_eq not_false_eq_true not_true_eq_false eq_self Nat.lt_irrefl Nat.not_lt_zero op2F ncF slice3F offF slArrF copyF clearF toArrF callDK_t calleeT eqN barOp boF seaMin seaMax seaNat1 seaNat2 Value.bool.injEq Value.int.injEq srcF lstC TV.dp IV.eqv PT.eqv PV.eqv All2 keepE hupd callZ_N AS.frz AS.frzW frzs frzsOk frzOk frzE frzA frzT frzC frzG frzH hdel cmpS eqF eqC gvs eqVs eqV decide_true resF tupA inlQ okL okGL okG nextL wkH wkC wkV nilA nilC AV.ok TV.ok CV.ok LV.ok okB forall_eq_or_imp forall_eq List.not_mem_nil List.mem_singleton true_or or_true or_false false_or or_self exists_prop AV.t.injEq TV.one.injEq CV.iv.injEq IV.g.injEq TV.agg.injEq List.cons.injEq repC_0 repC_1 repC_2 repC_3 rowV_len rowV_pur rowV_has rowV_frz frzC isIv_iv civ_iv rowV_all List.map_append
theorem fnok_26 : fnOk Try.prog 26 = true := by kernel_rfl

def recsB (n : Nat) (m : Nat → Nat) (D : Nat → Nat → Int) (n' : Nat) (m' : Nat → Nat) (D' : Nat → Nat → Int) : Bool := decide (n = n' ∧ ∀ i, i < n → m i = m' i ∧ ∀ j, j < m i → D i j = D' i j)
def fewB (n : Nat) (m : Nat → Nat) (n' : Nat) (m' : Nat → Nat) : Bool := decide (n ≤ 17 ∧ n' ≤ 20 ∧ (∀ i, i < n → m i ≤ 80) ∧ ∀ i, i < n' → m' i ≤ 600)
def firstN (n k : Nat) : Nat := 1 + k * ((n - 1) / 2)
theorem first_bd {n k : Nat} (h1 : 1 ≤ n) (hn : n ≤ 9223372036854775807) (hk : k ≤ 2) : 0 ≤ (k : Int) * (((n : Int) - 1) / 2) + 1 ∧ (k : Int) * (((n : Int) - 1) / 2) ≤ 9223372036854775806 := by
  rcases k with _ | _ | _ | k <;> simp <;> omega
theorem first_eq {n k : Nat} (h1 : 1 ≤ n) : (firstN n k : Int) = 1 + (k : Int) * (((n : Int) - 1) / 2) := by
  obtain ⟨q, rfl⟩ : ∃ q, n = q + 1 := ⟨n - 1, by omega⟩
  unfold firstN
  rw [Int.natCast_add, Int.natCast_mul, Nat.add_sub_cancel, Int.natCast_add, show ((q : Int) + ((1 : Nat) : Int) - 1) = (q : Int) by omega]
  rfl

set_option maxRecDepth 100000 in
set_option maxHeartbeats 4000000 in
theorem first_p (n : Nat) (m : Nat → Nat) (D : Nat → Nat → Int) (k : Nat) (hn : n ≤ 9223372036854775807) (h1 : 1 ≤ n) (hk : k ≤ 2) : CallsP Try.prog 34 [.agg [.lst 1 (n) (rowsI (m) (D))], .one (.g (.int .i64 ((k : Int))))] (.t (.one (.g (.int .i64 ((firstN n k : Int)))))) := by
  have hb := first_bd h1 hn hk
  refine CallsP_of Try.func34 rfl (by rw [Try.ntmps34]; simp) ?_
  simp only [Try.ntmps34, List.map_cons, List.map_nil, PT.tv, argEnv, Nat.zero_add, Nat.reduceAdd]
  repeat' (first
    | (with_reducible refine AW_seq_k fun K hK => ?_)
    | ((first | (with_reducible refine And.intro ?_ ?_) | (with_reducible refine Need.mk ?_)); focus (first | exact True.intro | (with_reducible assumption) | omega | (refine ⟨?_, ?_⟩ <;> omega) | (intro _; first | exact True.intro | (with_reducible assumption) | omega) | (intros; (repeat' (first | exact True.intro | omega | (with_reducible assumption) | (with_reducible refine And.intro ?_ ?_))); done) | (simp (disch := omega) only [Bool.and_eq_true, Bool.or_eq_true, decide_eq_true_eq, bne_iff_ne, ne_eq] at *; first | done | omega | (intros; omega)) | (simp; done) | (simp; omega) | (simp +contextual; done) | (intro h; rw [h]; rfl) | (intros; simp_all; done)))
    | (with_reducible refine AW_skip ?_)
    | (with_reducible refine AW_exit ?_)
    | (with_reducible refine AW_ret ?_)
    | (with_reducible refine retK_n ?_)
    | (with_reducible refine retK_n' ?_)
    | (with_reducible refine retH_n rfl rfl rfl ?_)
    | (with_reducible refine retH_n' rfl rfl rfl ?_)
    | (with_reducible refine AW_condI ?_)
    | (with_reducible refine AW_block ?_)
    | ((with_reducible refine condN_t ?_ ?_) <;> (intro hc; (try simp only [Bool.and_eq_true, Bool.or_eq_true, Bool.not_eq_true', Bool.and_eq_false_iff, Bool.or_eq_false_iff, decide_eq_true_eq, decide_eq_false_iff_not, bne_iff_ne, beq_iff_eq, reduceCtorEq, bne_eq_false_iff_eq, beq_eq_false_iff_ne, Bool.not_eq_false', Int.not_le, Int.not_lt, Bool.not_not] at hc); (try (exfalso; first | contradiction | omega))))
    | (with_reducible refine AW_regionP 0 [0, 1] ?_)
    | (with_reducible refine AW_regionP 1 [1, 2] ?_)
    | ((fail_if_success (with_reducible show AW _ _ _ _)); simp (maxSteps := 2000000) only [go_sem, reduceIte, reduceCtorEq, Nat.reduceAdd, Nat.reduceLT, Nat.reduceLeDiff, Nat.reduceEqDiff, Nat.reduceMul, Nat.reduceSub, Nat.reduceBEq, Try.f34, of_24_0, ty_22, le_22, bytI, rowsI])
    | ((fail_if_success (with_reducible show AW _ _ _ _)); simp (disch := omega) only [seaWrap, seaDiv, seaMod])
    | ((with_reducible refine hK _ ?_); clear hK K))
  all_goals (rw [first_eq h1])

set_option maxRecDepth 100000 in
set_option maxHeartbeats 4000000 in
theorem sector_p (n : Nat) (f : Nat → Int) (k : Nat) (hn : n ≤ 9223372036854775807) (hk : (k + 1) * 64 ≤ n) : CallsP Try.prog 56 [.one (.lst 1 (n) (bytI (f))), .one (.g (.int .i64 ((k : Int))))] (.t (.one (.lst 1 (64) (bytI (fun j => f (k * 64 + j)))))) := by
  refine CallsP_of Try.func56 rfl (by rw [Try.ntmps56]; simp) ?_
  simp only [Try.ntmps56, List.map_cons, List.map_nil, PT.tv, argEnv, Nat.zero_add, Nat.reduceAdd]
  repeat' (first
    | (with_reducible refine AW_seq_k fun K hK => ?_)
    | ((first | (with_reducible refine And.intro ?_ ?_) | (with_reducible refine Need.mk ?_)); focus (first | exact True.intro | (with_reducible assumption) | omega | (refine ⟨?_, ?_⟩ <;> omega) | (intro _; first | exact True.intro | (with_reducible assumption) | omega) | (intros; (repeat' (first | exact True.intro | omega | (with_reducible assumption) | (with_reducible refine And.intro ?_ ?_))); done) | (simp (disch := omega) only [Bool.and_eq_true, Bool.or_eq_true, decide_eq_true_eq, bne_iff_ne, ne_eq] at *; first | done | omega | (intros; omega)) | (simp; done) | (simp; omega) | (simp +contextual; done) | (intro h; rw [h]; rfl) | (intros; simp_all; done)))
    | (with_reducible refine AW_skip ?_)
    | (with_reducible refine AW_exit ?_)
    | (with_reducible refine AW_ret ?_)
    | (with_reducible refine retK_n ?_)
    | (with_reducible refine retK_n' ?_)
    | (with_reducible refine retH_n rfl rfl rfl ?_)
    | (with_reducible refine retH_n' rfl rfl rfl ?_)
    | (with_reducible refine AW_condI ?_)
    | (with_reducible refine AW_block ?_)
    | ((with_reducible refine condN_t ?_ ?_) <;> (intro hc; (try simp only [Bool.and_eq_true, Bool.or_eq_true, Bool.not_eq_true', Bool.and_eq_false_iff, Bool.or_eq_false_iff, decide_eq_true_eq, decide_eq_false_iff_not, bne_iff_ne, beq_iff_eq, reduceCtorEq, bne_eq_false_iff_eq, beq_eq_false_iff_ne, Bool.not_eq_false', Int.not_le, Int.not_lt, Bool.not_not] at hc); (skip); (try (exfalso; first | contradiction | omega))))
    | (with_reducible refine AW_regionP 0 [0, 1] ?_)
    | (with_reducible refine AW_regionP 1 [0, 1] ?_)
    | (with_reducible refine AW_regionP 2 [0, 1, 5] ?_)
    | (with_reducible refine AW_regionP 3 [0, 1, 5, 6] ?_)
    | (with_reducible refine AW_regionP 4 [0, 1, 5, 6] ?_)
    | (with_reducible refine AW_regionP 5 [0, 1, 5, 6] ?_)
    | (with_reducible refine AW_regionP 6 [5] ?_)
    | ((with_reducible refine AW_loopQ (c := (Code.seq (Code.seq (Code.region 3 _ _) _) _)) (ι := Nat) [0, 1] (fun j => [(5, .t (.one (.slc 0 0 j 1))), (6, iA .i64 ((k * 64 + j : Nat) : Int))]) (fun j => [(0, rowV (fun j => .g (.int .u8 (f (k * 64 + j)))) j)]) (fun j => j ≤ 64) (fun j => 64 - j) 0 ?lg3 ?l13 ?l23 ?li3 ?lr3); (case' lg3 => rintro j _); (case' li3 => try (first | trivial | omega | (simp; done) | (simp; omega))); (case' lr3 => rintro j hj KR hR3; skip; simp only [keepE, hupd, hset, lk, if_true, if_false, Nat.reduceEqDiff, reduceIte, List.cons_append, List.nil_append, bytI, rowsI, lstC_row, maxLen]))
    | ((with_reducible refine hR3 _ (j + 1) ?_); (try clear hR3 KR))
    | ((with_reducible refine Told.mk ?_); simp only [go_sem, reduceIte, reduceCtorEq, Nat.reduceAdd, Nat.reduceLT, Nat.reduceLeDiff, Nat.reduceEqDiff, Nat.reduceMul, Nat.reduceSub, Nat.reduceBEq, bytI, rowsI, lstC_row, maxLen] <;> (first | exact True.intro | (((try simp (disch := omega) only [seaWrap, Int.natCast_add, Int.cast_ofNat_Int, and_true, true_and, and_self]); (repeat' (first | exact True.intro | omega | rfl | (with_reducible assumption) | (with_reducible refine And.intro ?_ ?_) | (exact all_succ (by assumption) (by assumption)) | (exact wkC_same _ _) | (exact wkC_row _ (fun j hj => rfl)) | (exact wkC_snoc' _ rfl) | (exact wkC_snoc (fun j hj => rfl) rfl))); done)) | (refine Stuck.out ?_)))
    | ((fail_if_success (with_reducible show AW _ _ _ _)); simp (maxSteps := 2000000) only [go_sem, reduceIte, reduceCtorEq, Nat.reduceAdd, Nat.reduceLT, Nat.reduceLeDiff, Nat.reduceEqDiff, Nat.reduceMul, Nat.reduceSub, Nat.reduceBEq, Try.f56, sl_25, ar_25, ty_5, zc_5, bytI, rowsI, lstC_row, maxLen])
    | ((fail_if_success (with_reducible show AW _ _ _ _)); simp (disch := omega) only [seaWrap, seaDiv, seaMod])
    | ((with_reducible refine hK _ ?_); clear hK K)
    | (with_reducible apply_assumption -exfalso only [*]))
  all_goals ((intro i o hi ho; (try (obtain rfl : o = 0 := (by omega))); refine rowV_eqv' (F := bytI (fun j => f (k * 64 + j))) (fun j hj => ?_) _ _ (by omega) (by omega); exact IV.eqv_refl _))

set_option maxRecDepth 100000 in
set_option maxHeartbeats 4000000 in
theorem rsized_p (n : Nat) (m : Nat → Nat) (D : Nat → Nat → Int) (hn : n ≤ 9223372036854775807) (hm : ∀ i, i < n → m i ≤ 9223372036854775807) : CallsP Try.prog 36 [.agg [.lst 1 (n) (rowsI (m) (D))]] (.t (.one (.g (.bool (sizedB n m))))) := by
  refine CallsP_of Try.func36 rfl (by rw [Try.ntmps36]; simp) ?_
  simp only [Try.ntmps36, List.map_cons, List.map_nil, PT.tv, argEnv, Nat.zero_add, Nat.reduceAdd]
  repeat' (first
    | (with_reducible refine AW_seq_k fun K hK => ?_)
    | ((first | (with_reducible refine And.intro ?_ ?_) | (with_reducible refine Need.mk ?_)); focus (first | exact True.intro | (with_reducible assumption) | omega | (refine ⟨?_, ?_⟩ <;> omega) | (intro _; first | exact True.intro | (with_reducible assumption) | omega) | (intros; (repeat' (first | exact True.intro | omega | (with_reducible assumption) | (with_reducible refine And.intro ?_ ?_))); done) | (simp (disch := omega) only [Bool.and_eq_true, Bool.or_eq_true, decide_eq_true_eq, bne_iff_ne, ne_eq] at *; first | done | omega | (intros; omega)) | (simp; done) | (simp; omega) | (simp +contextual; done) | (intro h; rw [h]; rfl) | (intros; simp_all; done)))
    | (with_reducible refine AW_skip ?_)
    | (with_reducible refine AW_exit ?_)
    | (with_reducible refine AW_ret ?_)
    | (with_reducible refine retK_n ?_)
    | (with_reducible refine retK_n' ?_)
    | (with_reducible refine retH_n rfl rfl rfl ?_)
    | (with_reducible refine retH_n' rfl rfl rfl ?_)
    | (with_reducible refine AW_condI ?_)
    | (with_reducible refine AW_block ?_)
    | ((with_reducible refine condN_t ?_ ?_) <;> (intro hc; (try simp only [Bool.and_eq_true, Bool.or_eq_true, Bool.not_eq_true', Bool.and_eq_false_iff, Bool.or_eq_false_iff, decide_eq_true_eq, decide_eq_false_iff_not, bne_iff_ne, beq_iff_eq, reduceCtorEq, bne_eq_false_iff_eq, beq_eq_false_iff_ne, Bool.not_eq_false', Int.not_le, Int.not_lt, Bool.not_not] at hc); (skip); (try (exfalso; first | contradiction | omega))))
    | (with_reducible refine AW_regionP 0 [0] ?_)
    | (with_reducible refine AW_regionP 1 [1] ?_)
    | (with_reducible refine AW_regionP 2 [1, 3] ?_)
    | (with_reducible refine AW_regionP 3 [] ?_)
    | (with_reducible refine AW_regionP 4 [1, 3] ?_)
    | (with_reducible refine AW_regionP 5 [1, 3, 4] ?_)
    | (with_reducible refine AW_regionP 6 [1, 3, 4] ?_)
    | (with_reducible refine AW_regionP 7 [1, 3, 4] ?_)
    | (with_reducible refine AW_regionP 8 [] ?_)
    | (with_reducible refine AW_regionP 9 [] ?_)
    | ((with_reducible refine AW_loopQ (c := (Code.seq (Code.seq (Code.region 5 _ _) _) _)) (ι := Nat) [1, 3] (fun k => [(4, iA .i64 (k : Int))]) (fun k => []) (fun k => k ≤ n ∧ (∀ i, i < k → m i = 64)) (fun k => n - k) 0 ?lg5 ?l15 ?l25 ?li5 ?lr5); (case' lg5 => rintro k _); (case' li5 => try (exact ⟨Nat.zero_le _, fun i hi => absurd hi (Nat.not_lt_zero _)⟩)); (case' lr5 => rintro k ⟨h1, h2⟩ KR hR5; skip; simp only [keepE, hupd, hset, lk, if_true, if_false, Nat.reduceEqDiff, reduceIte, List.cons_append, List.nil_append, bytI, rowsI]))
    | ((with_reducible refine hR5 _ (k + 1) ?_); (try clear hR5 KR))
    | ((with_reducible refine Told.mk ?_); simp only [go_sem, reduceIte, reduceCtorEq, Nat.reduceAdd, Nat.reduceLT, Nat.reduceLeDiff, Nat.reduceEqDiff, Nat.reduceMul, Nat.reduceSub, Nat.reduceBEq, bytI, rowsI] <;> (first | exact True.intro | (((try simp (disch := omega) only [seaWrap, Int.natCast_add, Int.cast_ofNat_Int, and_true, true_and, and_self]); (repeat' (first | exact True.intro | omega | rfl | (with_reducible assumption) | (with_reducible refine And.intro ?_ ?_) | (exact all_succ (by assumption) (by assumption)) | (exact all_succ (by assumption) (by omega)))); done)) | (refine Stuck.out ?_)))
    | ((fail_if_success (with_reducible show AW _ _ _ _)); simp (maxSteps := 2000000) only [go_sem, reduceIte, reduceCtorEq, Nat.reduceAdd, Nat.reduceLT, Nat.reduceLeDiff, Nat.reduceEqDiff, Nat.reduceMul, Nat.reduceSub, Nat.reduceBEq, Try.f36, of_24_0, ty_22, le_22, sl_22, ar_22, ty_25, le_25, bytI, rowsI])
    | ((fail_if_success (with_reducible show AW _ _ _ _)); simp (disch := omega) only [seaWrap, seaDiv, seaMod])
    | ((with_reducible refine hK _ ?_); clear hK K)
    | (with_reducible apply_assumption -exfalso only [*]))
  all_goals (refine Eq.symm ?_; unfold sizedB; first | exact decide_eq_true ⟨by omega, by omega, by omega, fun i hi => h2 i (by omega)⟩ | exact decide_eq_false (fun h => absurd (h.2.2.2 k (by omega)) (by omega)) | exact decide_eq_false (fun h => by omega))

set_option maxRecDepth 100000 in
set_option maxHeartbeats 4000000 in
theorem recs_p (n : Nat) (m : Nat → Nat) (D : Nat → Nat → Int) (n' : Nat) (m' : Nat → Nat) (D' : Nat → Nat → Int) (hn : n ≤ 9223372036854775807) (hn' : n' ≤ 9223372036854775807) (hm : ∀ i, i < n → m i ≤ 9223372036854775807) (hm' : ∀ i, i < n' → m' i ≤ 9223372036854775807) : CallsP Try.prog 26 [.one (.lst 1 (n) (rowsI (m) (D))), .one (.lst 1 (n') (rowsI (m') (D')))] (.t (.one (.g (.bool (recsB n m D n' m' D'))))) := by
  refine CallsP_of Try.func26 rfl (by rw [Try.ntmps26]; simp) ?_
  simp only [Try.ntmps26, List.map_cons, List.map_nil, PT.tv, argEnv, Nat.zero_add, Nat.reduceAdd]
  repeat' (first
    | (with_reducible refine AW_seq_k fun K hK => ?_)
    | ((first | (with_reducible refine And.intro ?_ ?_) | (with_reducible refine Need.mk ?_)); focus (first | exact True.intro | (with_reducible assumption) | omega | (refine ⟨?_, ?_⟩ <;> omega) | (intro _; first | exact True.intro | (with_reducible assumption) | omega) | (intros; (repeat' (first | exact True.intro | omega | (with_reducible assumption) | (with_reducible refine And.intro ?_ ?_))); done) | (simp (disch := omega) only [Bool.and_eq_true, Bool.or_eq_true, decide_eq_true_eq, bne_iff_ne, ne_eq] at *; first | done | omega | (intros; omega)) | (simp; done) | (simp; omega) | (simp +contextual; done) | (intro h; rw [h]; rfl) | (intros; simp_all; done)))
    | (with_reducible refine AW_skip ?_)
    | (with_reducible refine AW_exit ?_)
    | (with_reducible refine AW_ret ?_)
    | (with_reducible refine retK_n ?_)
    | (with_reducible refine retK_n' ?_)
    | (with_reducible refine retH_n rfl rfl rfl ?_)
    | (with_reducible refine retH_n' rfl rfl rfl ?_)
    | (with_reducible refine AW_condI ?_)
    | (with_reducible refine AW_block ?_)
    | ((with_reducible refine condN_t ?_ ?_) <;> (intro hc; (try simp only [Bool.and_eq_true, Bool.or_eq_true, Bool.not_eq_true', Bool.and_eq_false_iff, Bool.or_eq_false_iff, decide_eq_true_eq, decide_eq_false_iff_not, bne_iff_ne, beq_iff_eq, reduceCtorEq, bne_eq_false_iff_eq, beq_eq_false_iff_ne, Bool.not_eq_false', Int.not_le, Int.not_lt, Bool.not_not] at hc); (skip); (try (exfalso; first | contradiction | omega))))
    | (with_reducible refine AW_regionP 0 [0, 1] ?_)
    | (with_reducible refine AW_regionP 1 [0, 1] ?_)
    | (with_reducible refine AW_regionP 2 [] ?_)
    | (with_reducible refine AW_regionP 3 [0, 1] ?_)
    | (with_reducible refine AW_regionP 4 [0, 1, 5] ?_)
    | (with_reducible refine AW_regionP 5 [0, 1, 5] ?_)
    | ((with_reducible refine AW_prune (c := Code.region 6 _ true) [0, 1, 5] ?_); (with_reducible refine AW_regionD ?_ ?_ ?_ ?_); (focus kernel_rfl); (focus kernel_rfl); (focus kernel_rfl))
    | (with_reducible refine AW_regionP 7 [] ?_)
    | (with_reducible refine AW_regionP 8 [0, 1, 5] ?_)
    | (with_reducible refine AW_regionP 9 [0, 1, 5, 6] ?_)
    | (with_reducible refine AW_regionP 10 [0, 1, 5, 6] ?_)
    | ((with_reducible refine AW_prune (c := Code.region 11 _ true) [0, 1, 5, 6] ?_); (with_reducible refine AW_regionD ?_ ?_ ?_ ?_); (focus kernel_rfl); (focus kernel_rfl); (focus kernel_rfl))
    | (with_reducible refine AW_regionP 12 [] ?_)
    | (with_reducible refine AW_regionP 13 [] ?_)
    | ((with_reducible refine And.intro ?_ ?_); focus ((with_reducible show chkR _ _ _ = true); kernel_rfl))
    | ((with_reducible refine AW_loopQ (c := (Code.seq (Code.seq (Code.region 4 _ _) _) _)) (ι := Nat) [0, 1] (fun k => [(5, iA .i64 (k : Int))]) (fun k => []) (fun k => k ≤ n ∧ (∀ i, i < k → m i = m' i ∧ ∀ j, j < m i → D i j = D' i j)) (fun k => n - k) 0 ?lg4 ?l14 ?l24 ?li4 ?lr4); (case' lg4 => rintro k _); (case' li4 => try (exact ⟨Nat.zero_le _, fun i hi => absurd hi (Nat.not_lt_zero _)⟩)); (case' lr4 => rintro k ⟨h1, h2⟩ KR hR4; skip; simp only [keepE, hupd, hset, lk, if_true, if_false, Nat.reduceEqDiff, reduceIte, List.cons_append, List.nil_append, bytI, rowsI]))
    | ((with_reducible refine hR4 _ (k + 1) ?_); (try clear hR4 KR))
    | ((with_reducible refine AW_loopQ (c := (Code.seq (Code.seq (Code.region 9 _ _) _) _)) (ι := Nat) [0, 1, 5] (fun j => [(6, iA .i64 (j : Int))]) (fun j => []) (fun j => j ≤ m k ∧ (∀ i, i < j → D k i = D' k i)) (fun j => m k - j) 0 ?lg9 ?l19 ?l29 ?li9 ?lr9); (case' lg9 => rintro j _); (case' li9 => try (exact ⟨Nat.zero_le _, fun i hi => absurd hi (Nat.not_lt_zero _)⟩)); (case' lr9 => rintro j ⟨h3, h4⟩ KR hR9; have hmk := hm k (by omega); simp only [keepE, hupd, hset, lk, if_true, if_false, Nat.reduceEqDiff, reduceIte, List.cons_append, List.nil_append, bytI, rowsI]))
    | ((with_reducible refine hR9 _ (j + 1) ?_); (try clear hR9 KR))
    | ((with_reducible refine Told.mk ?_); simp only [go_sem, reduceIte, reduceCtorEq, Nat.reduceAdd, Nat.reduceLT, Nat.reduceLeDiff, Nat.reduceEqDiff, Nat.reduceMul, Nat.reduceSub, Nat.reduceBEq, bytI, rowsI] <;> (first | exact True.intro | (((try simp (disch := omega) only [seaWrap, Int.natCast_add, Int.cast_ofNat_Int, and_true, true_and, and_self]); (repeat' (first | exact True.intro | omega | rfl | (with_reducible assumption) | (with_reducible refine And.intro ?_ ?_) | (exact all_succ (by assumption) (by assumption)) | (exact all_succ h2 ⟨by omega, fun i hi => h4 i (by omega)⟩))); done)) | (((try simp (disch := omega) only [seaWrap, Int.natCast_add, Int.cast_ofNat_Int, and_true, true_and, and_self]); (repeat' (first | exact True.intro | omega | rfl | (with_reducible assumption) | (with_reducible refine And.intro ?_ ?_) | (exact all_succ (by assumption) (by assumption)) | (exact all_succ (by assumption) (by omega)))); done)) | (refine Stuck.out ?_)))
    | ((fail_if_success (with_reducible show AW _ _ _ _)); simp (maxSteps := 2000000) only [go_sem, reduceIte, reduceCtorEq, Nat.reduceAdd, Nat.reduceLT, Nat.reduceLeDiff, Nat.reduceEqDiff, Nat.reduceMul, Nat.reduceSub, Nat.reduceBEq, Try.f26, le_22, sl_22, ar_22, ty_25, le_25, sl_25, ar_25, ty_5, bytI, rowsI])
    | ((fail_if_success (with_reducible show AW _ _ _ _)); simp (disch := omega) only [seaWrap, seaDiv, seaMod])
    | ((with_reducible refine hK _ ?_); clear hK K)
    | (with_reducible apply_assumption -exfalso only [*]))
  all_goals (refine Eq.symm ?_; unfold recsB; first | exact decide_eq_true ⟨by omega, fun i hi => h2 i (by omega)⟩ | exact decide_eq_false (fun h => absurd ((h.2 k (by omega)).2 j (by omega)) (by omega)) | exact decide_eq_false (fun h => absurd ((h.2 k (by omega)).1) (by omega)) | exact decide_eq_false (fun h => by omega))

set_option maxRecDepth 100000 in
set_option maxHeartbeats 4000000 in
theorem same_p (n : Nat) (m : Nat → Nat) (D : Nat → Nat → Int) (n' : Nat) (m' : Nat → Nat) (D' : Nat → Nat → Int) (hn : n ≤ 9223372036854775807) (hn' : n' ≤ 9223372036854775807) (hm : ∀ i, i < n → m i ≤ 9223372036854775807) (hm' : ∀ i, i < n' → m' i ≤ 9223372036854775807) : CallsP Try.prog 17 [.agg [.lst 1 (n) (rowsI (m) (D))], .agg [.lst 1 (n') (rowsI (m') (D'))]] (.t (.one (.g (.bool (recsB n m D n' m' D'))))) := by
  refine CallsP_of Try.func17 rfl (by rw [Try.ntmps17]; simp) ?_
  simp only [Try.ntmps17, List.map_cons, List.map_nil, PT.tv, argEnv, Nat.zero_add, Nat.reduceAdd]
  repeat' (first
    | (with_reducible refine AW_seq_k fun K hK => ?_)
    | ((first | (with_reducible refine And.intro ?_ ?_) | (with_reducible refine Need.mk ?_)); focus (first | exact True.intro | (with_reducible assumption) | omega | (refine ⟨?_, ?_⟩ <;> omega) | (intro _; first | exact True.intro | (with_reducible assumption) | omega) | (intros; (repeat' (first | exact True.intro | omega | (with_reducible assumption) | (with_reducible refine And.intro ?_ ?_))); done) | (simp (disch := omega) only [Bool.and_eq_true, Bool.or_eq_true, decide_eq_true_eq, bne_iff_ne, ne_eq] at *; first | done | omega | (intros; omega)) | (simp; done) | (simp; omega) | (simp +contextual; done) | (intro h; rw [h]; rfl) | (intros; simp_all; done)))
    | (with_reducible refine AW_skip ?_)
    | (with_reducible refine AW_exit ?_)
    | (with_reducible refine AW_ret ?_)
    | (with_reducible refine retK_n ?_)
    | (with_reducible refine retK_n' ?_)
    | (with_reducible refine retH_n rfl rfl rfl ?_)
    | (with_reducible refine retH_n' rfl rfl rfl ?_)
    | (with_reducible refine AW_condI ?_)
    | (with_reducible refine AW_block ?_)
    | ((with_reducible refine condN_t ?_ ?_) <;> (intro hc; (try simp only [Bool.and_eq_true, Bool.or_eq_true, Bool.not_eq_true', Bool.and_eq_false_iff, Bool.or_eq_false_iff, decide_eq_true_eq, decide_eq_false_iff_not, bne_iff_ne, beq_iff_eq, reduceCtorEq, bne_eq_false_iff_eq, beq_eq_false_iff_ne, Bool.not_eq_false', Int.not_le, Int.not_lt, Bool.not_not] at hc); (try (exfalso; first | contradiction | omega))))
    | (with_reducible refine AW_regionP 0 [0, 1] ?_)
    | (with_reducible refine AW_regionP 1 [2, 3] ?_)
    | (refine callN_q (k := 26) fnok_26 (recs_p n m D n' m' D' hn hn' hm hm') ?_ ?_)
    | ((fail_if_success (with_reducible show AW _ _ _ _)); simp (maxSteps := 2000000) only [go_sem, reduceIte, reduceCtorEq, Nat.reduceAdd, Nat.reduceLT, Nat.reduceLeDiff, Nat.reduceEqDiff, Nat.reduceMul, Nat.reduceSub, Nat.reduceBEq, Try.f17, of_24_0, ty_22, fnok_26, bytI, rowsI])
    | ((with_reducible refine hK _ ?_); clear hK K))

set_option maxRecDepth 100000 in
set_option maxHeartbeats 4000000 in
theorem few_p (n : Nat) (m : Nat → Nat) (D : Nat → Nat → Int) (n' : Nat) (m' : Nat → Nat) (D' : Nat → Nat → Int) (hn : n ≤ 9223372036854775807) (hn' : n' ≤ 9223372036854775807) (hm : ∀ i, i < n → m i ≤ 9223372036854775807) (hm' : ∀ i, i < n' → m' i ≤ 9223372036854775807) : CallsP Try.prog 12 [.agg [.lst 1 (n) (rowsI (m) (D))], .one (.lst 1 (n') (rowsI (m') (D')))] (.t (.one (.g (.bool (fewB n m n' m'))))) := by
  refine CallsP_of Try.func12 rfl (by rw [Try.ntmps12]; simp) ?_
  simp only [Try.ntmps12, List.map_cons, List.map_nil, PT.tv, argEnv, Nat.zero_add, Nat.reduceAdd]
  repeat' (first
    | (with_reducible refine AW_seq_k fun K hK => ?_)
    | ((first | (with_reducible refine And.intro ?_ ?_) | (with_reducible refine Need.mk ?_)); focus (first | exact True.intro | (with_reducible assumption) | omega | (refine ⟨?_, ?_⟩ <;> omega) | (intro _; first | exact True.intro | (with_reducible assumption) | omega) | (intros; (repeat' (first | exact True.intro | omega | (with_reducible assumption) | (with_reducible refine And.intro ?_ ?_))); done) | (simp (disch := omega) only [Bool.and_eq_true, Bool.or_eq_true, decide_eq_true_eq, bne_iff_ne, ne_eq] at *; first | done | omega | (intros; omega)) | (simp; done) | (simp; omega) | (simp +contextual; done) | (intro h; rw [h]; rfl) | (intros; simp_all; done)))
    | (with_reducible refine AW_skip ?_)
    | (with_reducible refine AW_exit ?_)
    | (with_reducible refine AW_ret ?_)
    | (with_reducible refine retK_n ?_)
    | (with_reducible refine retK_n' ?_)
    | (with_reducible refine retH_n rfl rfl rfl ?_)
    | (with_reducible refine retH_n' rfl rfl rfl ?_)
    | (with_reducible refine AW_condI ?_)
    | (with_reducible refine AW_block ?_)
    | ((with_reducible refine condN_t ?_ ?_) <;> (intro hc; (try simp only [Bool.and_eq_true, Bool.or_eq_true, Bool.not_eq_true', Bool.and_eq_false_iff, Bool.or_eq_false_iff, decide_eq_true_eq, decide_eq_false_iff_not, bne_iff_ne, beq_iff_eq, reduceCtorEq, bne_eq_false_iff_eq, beq_eq_false_iff_ne, Bool.not_eq_false', Int.not_le, Int.not_lt, Bool.not_not] at hc); (skip); (try (exfalso; first | contradiction | omega))))
    | (with_reducible refine AW_regionP 0 [0, 1] ?_)
    | (with_reducible refine AW_regionP 1 [1, 2] ?_)
    | (with_reducible refine AW_regionP 2 [] ?_)
    | (with_reducible refine AW_regionP 3 [1, 2] ?_)
    | (with_reducible refine AW_regionP 4 [1, 2, 5] ?_)
    | (with_reducible refine AW_regionP 5 [1, 2, 5] ?_)
    | (with_reducible refine AW_regionP 6 [1, 2, 5] ?_)
    | (with_reducible refine AW_regionP 7 [] ?_)
    | (with_reducible refine AW_regionP 8 [1] ?_)
    | (with_reducible refine AW_regionP 9 [1, 6] ?_)
    | (with_reducible refine AW_regionP 10 [1, 6] ?_)
    | (with_reducible refine AW_regionP 11 [1, 6] ?_)
    | (with_reducible refine AW_regionP 12 [] ?_)
    | (with_reducible refine AW_regionP 13 [] ?_)
    | ((with_reducible refine AW_loopQ (c := (Code.seq (Code.seq (Code.region 4 _ _) _) _)) (ι := Nat) [1, 2] (fun k => [(5, iA .i64 (k : Int))]) (fun k => []) (fun k => k ≤ n ∧ (∀ i, i < k → m i ≤ 80)) (fun k => n - k) 0 ?lg4 ?l14 ?l24 ?li4 ?lr4); (case' lg4 => rintro k _); (case' li4 => try (exact ⟨Nat.zero_le _, fun i hi => absurd hi (Nat.not_lt_zero _)⟩)); (case' lr4 => rintro k ⟨h1, h2⟩ KR hR4; skip; simp only [keepE, hupd, hset, lk, if_true, if_false, Nat.reduceEqDiff, reduceIte, List.cons_append, List.nil_append, bytI, rowsI]))
    | ((with_reducible refine hR4 _ (k + 1) ?_); (try clear hR4 KR))
    | ((with_reducible refine AW_loopQ (c := (Code.seq (Code.seq (Code.region 9 _ _) _) _)) (ι := Nat) [1] (fun k => [(6, iA .i64 (k : Int))]) (fun k => []) (fun k => k ≤ n' ∧ (∀ i, i < k → m' i ≤ 600)) (fun k => n' - k) 0 ?lg9 ?l19 ?l29 ?li9 ?lr9); (case' lg9 => rintro k _); (case' li9 => try (exact ⟨Nat.zero_le _, fun i hi => absurd hi (Nat.not_lt_zero _)⟩)); (case' lr9 => rintro k ⟨h3, h4⟩ KR hR9; skip; simp only [keepE, hupd, hset, lk, if_true, if_false, Nat.reduceEqDiff, reduceIte, List.cons_append, List.nil_append, bytI, rowsI]))
    | ((with_reducible refine hR9 _ (k + 1) ?_); (try clear hR9 KR))
    | ((with_reducible refine Told.mk ?_); simp only [go_sem, reduceIte, reduceCtorEq, Nat.reduceAdd, Nat.reduceLT, Nat.reduceLeDiff, Nat.reduceEqDiff, Nat.reduceMul, Nat.reduceSub, Nat.reduceBEq, bytI, rowsI] <;> (first | exact True.intro | (((try simp (disch := omega) only [seaWrap, Int.natCast_add, Int.cast_ofNat_Int, and_true, true_and, and_self]); (repeat' (first | exact True.intro | omega | rfl | (with_reducible assumption) | (with_reducible refine And.intro ?_ ?_) | (exact all_succ (by assumption) (by assumption)) | (exact all_succ (by assumption) (by omega)))); done)) | (refine Stuck.out ?_)))
    | ((fail_if_success (with_reducible show AW _ _ _ _)); simp (maxSteps := 2000000) only [go_sem, reduceIte, reduceCtorEq, Nat.reduceAdd, Nat.reduceLT, Nat.reduceLeDiff, Nat.reduceEqDiff, Nat.reduceMul, Nat.reduceSub, Nat.reduceBEq, Try.f12, of_24_0, ty_22, le_22, sl_22, ar_22, ty_25, le_25, bytI, rowsI])
    | ((fail_if_success (with_reducible show AW _ _ _ _)); simp (disch := omega) only [seaWrap, seaDiv, seaMod])
    | ((with_reducible refine hK _ ?_); clear hK K)
    | (with_reducible apply_assumption -exfalso only [*]))
  all_goals (refine Eq.symm ?_; unfold fewB; first | exact decide_eq_true ⟨by omega, by omega, fun i hi => h2 i (by omega), fun i hi => h4 i (by omega)⟩ | exact decide_eq_false (fun h => by omega) | exact decide_eq_false (fun h => absurd (h.2.2.1 k (by omega)) (by omega)) | exact decide_eq_false (fun h => absurd (h.2.2.2 k (by omega)) (by omega)) | exact decide_eq_false (fun h => absurd (h.2.2.2 k_1 (by omega)) (by omega)))

end Go.Proofs.Ytifoncmlelinjaa
