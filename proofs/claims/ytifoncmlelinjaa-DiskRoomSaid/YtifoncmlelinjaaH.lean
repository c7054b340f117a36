/- H: walks on abstract states. -/
import Derived.Test.YtifoncmlelinjaaG
set_option linter.unusedVariables false
set_option linter.unusedSimpArgs false
namespace Go.Proofs.Ytifoncmlelinjaa
open Go.RowKit Go.Sea
attribute [local go_sem] callK_N gf gk gdrop lkL setL lsF ltAll rdyL bodyF roundQ roundS loopQ loopS jumpOf inLs yV yA bAV zipPut purgeG List.tail_cons Option.isNone_none Option.isNone_some callGK_f callDK_f callDGK_f retN retHN blockA arun_nil arun_plain arun_guard plainF guardF guardB arunD_nil arunD_plain arunD_guard plainDF guardDF guardDB AS.ent Eff.noApp Eff.tgt ftF AV.refs TV.refs CV.refs LV.refs Op.operands Call.operands List.append_toArray List.push_toArray List.flatMap_cons List.flatMap_nil List.toList_toArray Option.toArray nidF nidA List.reverse_cons List.reverse_nil opF AS.ev constA lk AS.get AV.tv AV.nd AS.eff AS.put argEnv PT.tv PV.av AV.mbOf hset hget TV.cells dstOk thenA gB isB toB TV.bool? TV.int? intF loadF storeF fieldF indexF lenF sliceF optI appF minmaxF ipCells fillF partsF lvsF TV.lv LV.tv purgeE purgeC purgeH AV.purge CV.purge AV.has TV.has CV.has LV.has calleeF argsF tvsF toPT toIV toIVs toPTs toPV iA bA List.map_cons List.map_nil List.length_nil List.length_cons List.getElem?_cons_zero List.getElem?_cons_succ List.getElem?_nil Option.getD_some Option.getD_none Option.bind_some Option.bind_none List.take_succ_cons List.take_zero List.drop_succ_cons List.drop_zero List.take_nil List.drop_nil List.cons_append List.nil_append List.append_nil List.getD_cons_zero List.getD_cons_succ Option.map_some Option.map_none Option.isSome_some Option.isSome_none List.size_toArray List.any_cons List.any_nil List.mem_cons if_true if_false ite_true ite_false cond_true cond_false Nat.zero_add Nat.add_zero Nat.sub_zero Nat.le_refl Nat.zero_mul Nat.mul_zero Nat.one_mul Nat.mul_one Int.toNat_zero Int.toNat_natCast Bool.or_false Bool.false_or Bool.or_true Bool.true_or Bool.and_true Bool.true_and Bool.and_false Bool.false_and beq_self_eq_true beq_true beq_false Bool.not_true Bool.not_false and_true true_and and_false false_and and_self imp_self Bool.cond_false_right Bool.cond_true_left implies_true forall_const true_implies false_implies Option.some.injEq Prod.mk.injEq ne_eq not_false_eq_true not_true_eq_false eq_self Nat.lt_irrefl Nat.not_lt_zero op2F ncF slice3F offF slArrF copyF clearF toArrF callDK_t calleeT eqN barOp boF seaMin seaMax seaNat1 seaNat2 Value.bool.injEq Value.int.injEq srcF lstC TV.dp IV.eqv PT.eqv PV.eqv All2 keepE hupd callZ_N AS.frz AS.frzW frzs frzsOk frzOk frzE frzA frzT frzC frzG frzH hdel cmpS eqF eqC gvs eqVs eqV decide_true resF tupA inlQ okL okGL okG nextL wkH wkC wkV nilA nilC AV.ok TV.ok CV.ok LV.ok okB forall_eq_or_imp forall_eq List.not_mem_nil List.mem_singleton true_or or_true or_false false_or or_self exists_prop AV.t.injEq TV.one.injEq CV.iv.injEq IV.g.injEq TV.agg.injEq List.cons.injEq repC_0 repC_1 repC_2 repC_3 rowV_len rowV_pur rowV_has rowV_frz frzC isIv_iv civ_iv rowV_all List.map_append retON AV.to TV.to CV.to
theorem fo_24 : fieldsOk Try.prog 24 = true := by kernel_rfl
theorem zc_24 : zeroC Try.prog 24 = some [.iv (.g (.slice none 0 0))] := by kernel_rfl

def newB (x : Int) : Bool := decide (3 ≤ x ∧ x ≤ 63 ∧ x % 2 = 1)
def newN (x : Int) : Nat := if newB x = true then x.toNat else 0
def newE (x : Int) : Int := if newB x = true then 0 else 1
def zD (_ _ : Nat) : Int := 0
def c64 (_ : Nat) : Nat := 64
def zI (_ : Nat) : IV := .lst 1 64 (bytI fun _ => 0)
theorem toNat64 : Int.toNat 64 = 64 := rfl
theorem repC_u8 : repC [CV.iv (.g (.int .u8 0))] 64 = rowV (fun _ => .g (.int .u8 0)) 64 := repC_row _ _

set_option maxRecDepth 100000 in
set_option maxHeartbeats 4000000 in
theorem new_b1 (x : Int) (hx : -9223372036854775808 ≤ x ∧ x ≤ 9223372036854775807) (h : x < 3) : CallsP Try.prog 15 [.one (.g (.int .i64 (x)))] (.tup [.agg [.lst 1 (newN x) (rowsI (c64) (zD))], .one (.g (.int .i64 (newE x)))]) := by
  have h1 : (x < 3) = True := eq_true h
  have hb : newB x = false := decide_eq_false (by omega)
  refine CallsP_of Try.func15 rfl (by rw [Try.ntmps15]; simp) ?_
  simp only [Try.ntmps15, List.map_cons, List.map_nil, PT.tv, argEnv, Nat.zero_add, Nat.reduceAdd]
  repeat' (first
    | (with_reducible refine callDGK_f0 ?_)
    | (with_reducible refine callGK_f0 ?_)
    | (with_reducible refine AW_seq_k fun K hK => ?_)
    | ((first | (with_reducible refine And.intro ?_ ?_) | (with_reducible refine Need.mk ?_)); focus (first | exact True.intro | (with_reducible assumption) | omega | (refine ⟨?_, ?_⟩ <;> omega) | (intro _; first | exact True.intro | (with_reducible assumption) | omega) | (intros; (repeat' (first | exact True.intro | omega | (with_reducible assumption) | (with_reducible refine And.intro ?_ ?_))); done) | (simp (disch := omega) only [Bool.and_eq_true, Bool.or_eq_true, decide_eq_true_eq, bne_iff_ne, ne_eq] at *; first | done | omega | (intros; omega)) | (simp; done) | (simp; omega) | (simp +contextual; done) | (intro h; rw [h]; rfl) | (intros; simp_all; done)))
    | (with_reducible refine AW_skip ?_)
    | (with_reducible refine AW_exit ?_)
    | (with_reducible refine AW_ret ?_)
    | (with_reducible refine retK_n ?_)
    | (with_reducible refine retK_n' ?_)
    | (with_reducible refine retH_n rfl rfl rfl ?_)
    | (with_reducible refine retH_n' rfl rfl rfl ?_)
    | (with_reducible refine retO_n ?_ ?_)
    | (with_reducible refine retO_n' ?_ ?_)
    | (with_reducible refine AW_condI ?_)
    | (with_reducible refine AW_block ?_)
    | ((with_reducible refine condN_t ?_ ?_) <;> (intro hc; (try simp only [Bool.and_eq_true, Bool.or_eq_true, Bool.not_eq_true', Bool.and_eq_false_iff, Bool.or_eq_false_iff, decide_eq_true_eq, decide_eq_false_iff_not, bne_iff_ne, beq_iff_eq, reduceCtorEq, bne_eq_false_iff_eq, beq_eq_false_iff_ne, Bool.not_eq_false', Int.not_le, Int.not_lt, Bool.not_not] at hc); (skip); (try (exfalso; first | contradiction | omega))))
    | (with_reducible refine AW_regionP 0 [0] ?_)
    | (with_reducible refine AW_regionP 1 [0, 2] ?_)
    | (with_reducible refine AW_regionP 2 [2] ?_)
    | (with_reducible refine AW_regionP 3 [0, 2] ?_)
    | (with_reducible refine AW_regionP 4 [0, 2, 4] ?_)
    | (with_reducible refine AW_regionP 5 [2, 4, 17, 18] ?_)
    | ((with_reducible refine AW_prune (c := Code.region 6 _ true) [2, 4, 17, 18] ?_); (with_reducible refine AW_regionB 4 ?_ ?_ ?_ ?_ ?_); (focus kernel_rfl); (focus kernel_rfl); (focus kernel_rfl); (focus kernel_rfl))
    | (with_reducible refine AW_regionP 7 [2, 4, 17, 18] ?_)
    | (with_reducible refine AW_regionP 8 [2, 4] ?_)
    | ((with_reducible refine And.intro ?_ ?_); focus ((with_reducible show chkS _ _ _ _ = true); kernel_rfl))
    | ((with_reducible refine And.intro ?_ ?_); focus ((with_reducible show chkR _ _ _ = true); kernel_rfl))
    | ((fail_if_success (with_reducible show AW _ _ _ _)); simp (maxSteps := 2000000) only [go_sem, reduceIte, reduceCtorEq, Nat.reduceAdd, Nat.reduceLT, Nat.reduceLeDiff, Nat.reduceEqDiff, Nat.reduceMul, Nat.reduceSub, Nat.reduceBEq, Try.f15, zc_24, fo_24, ty_24, of_24_0, ty_22, sl_25, zc_5, sl_22, zc_25, bytI, rowsI, h1, decide_true, decide_false])
    | ((fail_if_success (with_reducible show AW _ _ _ _)); simp (disch := omega) only [seaWrap, seaDiv, seaMod])
    | ((with_reducible refine hK _ ?_); clear hK K))
  all_goals (simp only [newN, newE, hb, Bool.false_eq_true, if_false]; first | exact ⟨rfl, rfl⟩ | exact ⟨⟨rfl, rfl⟩, rfl⟩ | exact ⟨trivial, trivial⟩ | trivial)

set_option maxRecDepth 100000 in
set_option maxHeartbeats 4000000 in
theorem new_b2 (x : Int) (hx : -9223372036854775808 ≤ x ∧ x ≤ 9223372036854775807) (h : 63 < x) : CallsP Try.prog 15 [.one (.g (.int .i64 (x)))] (.tup [.agg [.lst 1 (newN x) (rowsI (c64) (zD))], .one (.g (.int .i64 (newE x)))]) := by
  have h1 : (x < 3) = False := eq_false (by omega)
  have h2 : (x > 63) = True := eq_true h
  have hb : newB x = false := decide_eq_false (by omega)
  refine CallsP_of Try.func15 rfl (by rw [Try.ntmps15]; simp) ?_
  simp only [Try.ntmps15, List.map_cons, List.map_nil, PT.tv, argEnv, Nat.zero_add, Nat.reduceAdd]
  repeat' (first
    | (with_reducible refine callDGK_f0 ?_)
    | (with_reducible refine callGK_f0 ?_)
    | (with_reducible refine AW_seq_k fun K hK => ?_)
    | ((first | (with_reducible refine And.intro ?_ ?_) | (with_reducible refine Need.mk ?_)); focus (first | exact True.intro | (with_reducible assumption) | omega | (refine ⟨?_, ?_⟩ <;> omega) | (intro _; first | exact True.intro | (with_reducible assumption) | omega) | (intros; (repeat' (first | exact True.intro | omega | (with_reducible assumption) | (with_reducible refine And.intro ?_ ?_))); done) | (simp (disch := omega) only [Bool.and_eq_true, Bool.or_eq_true, decide_eq_true_eq, bne_iff_ne, ne_eq] at *; first | done | omega | (intros; omega)) | (simp; done) | (simp; omega) | (simp +contextual; done) | (intro h; rw [h]; rfl) | (intros; simp_all; done)))
    | (with_reducible refine AW_skip ?_)
    | (with_reducible refine AW_exit ?_)
    | (with_reducible refine AW_ret ?_)
    | (with_reducible refine retK_n ?_)
    | (with_reducible refine retK_n' ?_)
    | (with_reducible refine retH_n rfl rfl rfl ?_)
    | (with_reducible refine retH_n' rfl rfl rfl ?_)
    | (with_reducible refine retO_n ?_ ?_)
    | (with_reducible refine retO_n' ?_ ?_)
    | (with_reducible refine AW_condI ?_)
    | (with_reducible refine AW_block ?_)
    | ((with_reducible refine condN_t ?_ ?_) <;> (intro hc; (try simp only [Bool.and_eq_true, Bool.or_eq_true, Bool.not_eq_true', Bool.and_eq_false_iff, Bool.or_eq_false_iff, decide_eq_true_eq, decide_eq_false_iff_not, bne_iff_ne, beq_iff_eq, reduceCtorEq, bne_eq_false_iff_eq, beq_eq_false_iff_ne, Bool.not_eq_false', Int.not_le, Int.not_lt, Bool.not_not] at hc); (skip); (try (exfalso; first | contradiction | omega))))
    | (with_reducible refine AW_regionP 0 [0] ?_)
    | (with_reducible refine AW_regionP 1 [0, 2] ?_)
    | (with_reducible refine AW_regionP 2 [2] ?_)
    | (with_reducible refine AW_regionP 3 [0, 2] ?_)
    | (with_reducible refine AW_regionP 4 [0, 2, 4] ?_)
    | (with_reducible refine AW_regionP 5 [2, 4, 17, 18] ?_)
    | ((with_reducible refine AW_prune (c := Code.region 6 _ true) [2, 4, 17, 18] ?_); (with_reducible refine AW_regionB 4 ?_ ?_ ?_ ?_ ?_); (focus kernel_rfl); (focus kernel_rfl); (focus kernel_rfl); (focus kernel_rfl))
    | (with_reducible refine AW_regionP 7 [2, 4, 17, 18] ?_)
    | (with_reducible refine AW_regionP 8 [2, 4] ?_)
    | ((with_reducible refine And.intro ?_ ?_); focus ((with_reducible show chkS _ _ _ _ = true); kernel_rfl))
    | ((with_reducible refine And.intro ?_ ?_); focus ((with_reducible show chkR _ _ _ = true); kernel_rfl))
    | ((fail_if_success (with_reducible show AW _ _ _ _)); simp (maxSteps := 2000000) only [go_sem, reduceIte, reduceCtorEq, Nat.reduceAdd, Nat.reduceLT, Nat.reduceLeDiff, Nat.reduceEqDiff, Nat.reduceMul, Nat.reduceSub, Nat.reduceBEq, Try.f15, zc_24, fo_24, ty_24, of_24_0, ty_22, sl_25, zc_5, sl_22, zc_25, bytI, rowsI, h1, h2, decide_true, decide_false])
    | ((fail_if_success (with_reducible show AW _ _ _ _)); simp (disch := omega) only [seaWrap, seaDiv, seaMod])
    | ((with_reducible refine hK _ ?_); clear hK K))
  all_goals (simp only [newN, newE, hb, Bool.false_eq_true, if_false]; first | exact ⟨rfl, rfl⟩ | exact ⟨⟨rfl, rfl⟩, rfl⟩ | exact ⟨trivial, trivial⟩ | trivial)

set_option maxRecDepth 100000 in
set_option maxHeartbeats 4000000 in
theorem new_ok (n : Nat) (h3 : 3 ≤ n) (h63 : n ≤ 63) : CallsP Try.prog 15 [.one (.g (.int .i64 ((n : Int))))] (.tup [.agg [.lst 1 (newN (n : Int)) (rowsI (c64) (zD))], .one (.g (.int .i64 (newE (n : Int))))]) := by
  have h1 : ((n : Int) < 3) = False := eq_false (by omega)
  have h2 : ((n : Int) > 63) = False := eq_false (by omega)
  refine CallsP_of Try.func15 rfl (by rw [Try.ntmps15]; simp) ?_
  simp only [Try.ntmps15, List.map_cons, List.map_nil, PT.tv, argEnv, Nat.zero_add, Nat.reduceAdd]
  repeat' (first
    | (with_reducible refine AW_seq_k fun K hK => ?_)
    | ((first | (with_reducible refine And.intro ?_ ?_) | (with_reducible refine Need.mk ?_)); focus (first | exact True.intro | (with_reducible assumption) | omega | (refine ⟨?_, ?_⟩ <;> omega) | (intro _; first | exact True.intro | (with_reducible assumption) | omega) | (intros; (repeat' (first | exact True.intro | omega | (with_reducible assumption) | (with_reducible refine And.intro ?_ ?_))); done) | (simp (disch := omega) only [Bool.and_eq_true, Bool.or_eq_true, decide_eq_true_eq, bne_iff_ne, ne_eq] at *; first | done | omega | (intros; omega)) | (simp; done) | (simp; omega) | (simp +contextual; done) | (intro h; rw [h]; rfl) | (intros; simp_all; done)))
    | (with_reducible refine AW_skip ?_)
    | (with_reducible refine AW_exit ?_)
    | (with_reducible refine AW_ret ?_)
    | (with_reducible refine retK_n ?_)
    | (with_reducible refine retK_n' ?_)
    | (with_reducible refine retH_n rfl rfl rfl ?_)
    | (with_reducible refine retH_n' rfl rfl rfl ?_)
    | (with_reducible refine retO_n ?_ ?_)
    | (with_reducible refine retO_n' ?_ ?_)
    | (with_reducible refine AW_condI ?_)
    | (with_reducible refine AW_block ?_)
    | ((with_reducible refine condN_t ?_ ?_) <;> (intro hc; (try simp only [Bool.and_eq_true, Bool.or_eq_true, Bool.not_eq_true', Bool.and_eq_false_iff, Bool.or_eq_false_iff, decide_eq_true_eq, decide_eq_false_iff_not, bne_iff_ne, beq_iff_eq, reduceCtorEq, bne_eq_false_iff_eq, beq_eq_false_iff_ne, Bool.not_eq_false', Int.not_le, Int.not_lt, Bool.not_not] at hc); (skip); (try (exfalso; first | contradiction | omega))))
    | (with_reducible refine AW_regionP 0 [0] ?_)
    | (with_reducible refine AW_regionP 1 [0, 2] ?_)
    | (with_reducible refine AW_regionP 2 [2] ?_)
    | (with_reducible refine AW_regionP 3 [0, 2] ?_)
    | (with_reducible refine AW_regionP 4 [0, 2, 4] ?_)
    | (with_reducible refine AW_regionP 5 [2, 4, 17, 18] ?_)
    | ((with_reducible refine AW_prune (c := Code.region 6 _ true) [2, 4, 17, 18] ?_); (with_reducible refine AW_regionB 4 ?_ ?_ ?_ ?_ ?_); (focus kernel_rfl); (focus kernel_rfl); (focus kernel_rfl); (focus kernel_rfl))
    | (with_reducible refine AW_frz (c := Code.region 7 _ false) [5] ?_ (AW_regionP 7 [2, 4, 17, 18] ?_))
    | (with_reducible refine AW_regionP 8 [2, 4] ?_)
    | ((with_reducible refine And.intro ?_ ?_); focus ((with_reducible show chkS _ _ _ _ = true); kernel_rfl))
    | ((with_reducible refine And.intro ?_ ?_); focus ((with_reducible show chkR _ _ _ = true); kernel_rfl))
    | ((with_reducible refine AW_loopQ (c := (Code.seq (Code.region 5 _ _) _)) (ι := Nat) [2, 4, 17] (fun k => [(18, iA .i64 (k : Int))]) (fun k => [(1, [.slc 2 0 k 1]), (2, rowV zI k)]) (fun k => k ≤ n) (fun k => n - k) 0 ?lg5 ?l15 ?l25 ?li5 ?lr5); (case' lg5 => rintro k _); (case' li5 => try (first | trivial | omega | (simp; done) | (simp; omega))); (case' lr5 => rintro k hk KR hR5; skip; simp only [keepE, hupd, hset, lk, if_true, if_false, Nat.reduceEqDiff, reduceIte, List.cons_append, List.nil_append, bytI, rowsI, h1, h2, decide_true, decide_false, repC_u8, toNat64, maxLen]))
    | ((with_reducible refine hR5 _ (k + 1) ?_); (try clear hR5 KR))
    | ((with_reducible refine Told.mk ?_); simp only [go_sem, reduceIte, reduceCtorEq, Nat.reduceAdd, Nat.reduceLT, Nat.reduceLeDiff, Nat.reduceEqDiff, Nat.reduceMul, Nat.reduceSub, Nat.reduceBEq, bytI, rowsI, h1, h2, decide_true, decide_false, repC_u8, toNat64, maxLen] <;> (first | exact True.intro | (((try simp (disch := omega) only [seaWrap, Int.natCast_add, Int.cast_ofNat_Int, and_true, true_and, and_self]); (repeat' (first | exact True.intro | omega | rfl | (with_reducible assumption) | (with_reducible refine And.intro ?_ ?_) | (exact all_succ (by assumption) (by assumption)) | (exact wkC_same _ _) | ((refine wkC_snoc' ⟨rfl, rfl, fun i o hi ho => ?_⟩; exact rowV_eqv' (F := bytI fun _ => 0) (fun j hj => IV.eqv_refl _) i o hi ho)))); done)) | (refine Stuck.out ?_)))
    | ((fail_if_success (with_reducible show AW _ _ _ _)); simp (maxSteps := 2000000) only [go_sem, reduceIte, reduceCtorEq, Nat.reduceAdd, Nat.reduceLT, Nat.reduceLeDiff, Nat.reduceEqDiff, Nat.reduceMul, Nat.reduceSub, Nat.reduceBEq, Try.f15, zc_24, fo_24, ty_24, of_24_0, ty_22, sl_25, zc_5, sl_22, zc_25, bytI, rowsI, h1, h2, decide_true, decide_false, repC_u8, toNat64, maxLen])
    | ((fail_if_success (with_reducible show AW _ _ _ _)); simp (disch := omega) only [seaWrap, seaDiv, seaMod])
    | ((with_reducible refine hK _ ?_); clear hK K)
    | (with_reducible apply_assumption -exfalso only [*]))
  · have hb : newB (n : Int) = false := decide_eq_false (by omega)
    simp only [newN, newE, hb, Bool.false_eq_true, if_false]; exact ⟨trivial, trivial⟩
  · have hb : newB (n : Int) = true := decide_eq_true (by omega)
    obtain rfl : n = k := (by omega)
    simp only [newN, newE, hb, if_true, Int.toNat_natCast]
    exact ⟨⟨trivial, fun i o hi ho => rowV_eqv' (f := zI) (F := rowsI c64 zD) (fun j hj => IV.eqv_refl _) i o hi ho⟩, trivial⟩

theorem new_p (x : Int) (hx : -9223372036854775808 ≤ x ∧ x ≤ 9223372036854775807) : CallsP Try.prog 15 [.one (.g (.int .i64 (x)))] (.tup [.agg [.lst 1 (newN x) (rowsI (c64) (zD))], .one (.g (.int .i64 (newE x)))]) := by
  by_cases h1 : x < 3
  · exact new_b1 x hx h1
  · by_cases h2 : 63 < x
    · exact new_b2 x hx h2
    · obtain ⟨n, rfl⟩ : ∃ n : Nat, x = (n : Int) := ⟨x.toNat, by omega⟩
      exact new_ok n (by omega) (by omega)

set_option maxRecDepth 100000 in
set_option maxHeartbeats 4000000 in
theorem rnew_b1 (x : Int) (hx : -9223372036854775808 ≤ x ∧ x ≤ 9223372036854775807) (h : x < 3) : CallsP Try.prog 16 [.one (.g (.int .i64 (x)))] (.tup [.agg [.lst 1 (newN x) (rowsI (c64) (zD))], .one (.g (.int .i64 (newE x)))]) := by
  have h1 : (x < 3) = True := eq_true h
  have hb : newB x = false := decide_eq_false (by omega)
  refine CallsP_of Try.func16 rfl (by rw [Try.ntmps16]; simp) ?_
  simp only [Try.ntmps16, List.map_cons, List.map_nil, PT.tv, argEnv, Nat.zero_add, Nat.reduceAdd]
  repeat' (first
    | (with_reducible refine callDGK_f0 ?_)
    | (with_reducible refine callGK_f0 ?_)
    | (with_reducible refine AW_seq_k fun K hK => ?_)
    | ((first | (with_reducible refine And.intro ?_ ?_) | (with_reducible refine Need.mk ?_)); focus (first | exact True.intro | (with_reducible assumption) | omega | (refine ⟨?_, ?_⟩ <;> omega) | (intro _; first | exact True.intro | (with_reducible assumption) | omega) | (intros; (repeat' (first | exact True.intro | omega | (with_reducible assumption) | (with_reducible refine And.intro ?_ ?_))); done) | (simp (disch := omega) only [Bool.and_eq_true, Bool.or_eq_true, decide_eq_true_eq, bne_iff_ne, ne_eq] at *; first | done | omega | (intros; omega)) | (simp; done) | (simp; omega) | (simp +contextual; done) | (intro h; rw [h]; rfl) | (intros; simp_all; done)))
    | (with_reducible refine AW_skip ?_)
    | (with_reducible refine AW_exit ?_)
    | (with_reducible refine AW_ret ?_)
    | (with_reducible refine retK_n ?_)
    | (with_reducible refine retK_n' ?_)
    | (with_reducible refine retH_n rfl rfl rfl ?_)
    | (with_reducible refine retH_n' rfl rfl rfl ?_)
    | (with_reducible refine retO_n ?_ ?_)
    | (with_reducible refine retO_n' ?_ ?_)
    | (with_reducible refine AW_condI ?_)
    | (with_reducible refine AW_block ?_)
    | ((with_reducible refine condN_t ?_ ?_) <;> (intro hc; (try simp only [Bool.and_eq_true, Bool.or_eq_true, Bool.not_eq_true', Bool.and_eq_false_iff, Bool.or_eq_false_iff, decide_eq_true_eq, decide_eq_false_iff_not, bne_iff_ne, beq_iff_eq, reduceCtorEq, bne_eq_false_iff_eq, beq_eq_false_iff_ne, Bool.not_eq_false', Int.not_le, Int.not_lt, Bool.not_not] at hc); (skip); (try (exfalso; first | contradiction | omega))))
    | (with_reducible refine AW_regionP 0 [0] ?_)
    | (with_reducible refine AW_regionP 1 [0, 2] ?_)
    | (with_reducible refine AW_regionP 2 [2] ?_)
    | (with_reducible refine AW_regionP 3 [0, 2] ?_)
    | (with_reducible refine AW_regionP 4 [0, 2, 4] ?_)
    | (with_reducible refine AW_regionP 5 [0, 2, 4, 5] ?_)
    | (with_reducible refine AW_regionP 6 [0, 2, 4, 5] ?_)
    | ((with_reducible refine AW_prune (c := Code.region 7 _ true) [0, 2, 4, 5] ?_); (with_reducible refine AW_regionB 4 ?_ ?_ ?_ ?_ ?_); (focus kernel_rfl); (focus kernel_rfl); (focus kernel_rfl); (focus kernel_rfl))
    | (with_reducible refine AW_regionP 8 [2, 4] ?_)
    | ((with_reducible refine And.intro ?_ ?_); focus ((with_reducible show chkS _ _ _ _ = true); kernel_rfl))
    | ((with_reducible refine And.intro ?_ ?_); focus ((with_reducible show chkR _ _ _ = true); kernel_rfl))
    | ((fail_if_success (with_reducible show AW _ _ _ _)); simp (maxSteps := 2000000) only [go_sem, reduceIte, reduceCtorEq, Nat.reduceAdd, Nat.reduceLT, Nat.reduceLeDiff, Nat.reduceEqDiff, Nat.reduceMul, Nat.reduceSub, Nat.reduceBEq, Try.f16, zc_24, fo_24, ty_24, of_24_0, ty_22, sl_25, zc_5, sl_22, zc_25, bytI, rowsI, h1, decide_true, decide_false])
    | ((fail_if_success (with_reducible show AW _ _ _ _)); simp (disch := omega) only [seaWrap, seaDiv, seaMod])
    | ((with_reducible refine hK _ ?_); clear hK K))
  all_goals (simp only [newN, newE, hb, Bool.false_eq_true, if_false]; first | exact ⟨rfl, rfl⟩ | exact ⟨⟨rfl, rfl⟩, rfl⟩ | exact ⟨trivial, trivial⟩ | trivial)

set_option maxRecDepth 100000 in
set_option maxHeartbeats 4000000 in
theorem rnew_b2 (x : Int) (hx : -9223372036854775808 ≤ x ∧ x ≤ 9223372036854775807) (h : 63 < x) : CallsP Try.prog 16 [.one (.g (.int .i64 (x)))] (.tup [.agg [.lst 1 (newN x) (rowsI (c64) (zD))], .one (.g (.int .i64 (newE x)))]) := by
  have h1 : (x < 3) = False := eq_false (by omega)
  have h2 : (x > 63) = True := eq_true h
  have hb : newB x = false := decide_eq_false (by omega)
  refine CallsP_of Try.func16 rfl (by rw [Try.ntmps16]; simp) ?_
  simp only [Try.ntmps16, List.map_cons, List.map_nil, PT.tv, argEnv, Nat.zero_add, Nat.reduceAdd]
  repeat' (first
    | (with_reducible refine callDGK_f0 ?_)
    | (with_reducible refine callGK_f0 ?_)
    | (with_reducible refine AW_seq_k fun K hK => ?_)
    | ((first | (with_reducible refine And.intro ?_ ?_) | (with_reducible refine Need.mk ?_)); focus (first | exact True.intro | (with_reducible assumption) | omega | (refine ⟨?_, ?_⟩ <;> omega) | (intro _; first | exact True.intro | (with_reducible assumption) | omega) | (intros; (repeat' (first | exact True.intro | omega | (with_reducible assumption) | (with_reducible refine And.intro ?_ ?_))); done) | (simp (disch := omega) only [Bool.and_eq_true, Bool.or_eq_true, decide_eq_true_eq, bne_iff_ne, ne_eq] at *; first | done | omega | (intros; omega)) | (simp; done) | (simp; omega) | (simp +contextual; done) | (intro h; rw [h]; rfl) | (intros; simp_all; done)))
    | (with_reducible refine AW_skip ?_)
    | (with_reducible refine AW_exit ?_)
    | (with_reducible refine AW_ret ?_)
    | (with_reducible refine retK_n ?_)
    | (with_reducible refine retK_n' ?_)
    | (with_reducible refine retH_n rfl rfl rfl ?_)
    | (with_reducible refine retH_n' rfl rfl rfl ?_)
    | (with_reducible refine retO_n ?_ ?_)
    | (with_reducible refine retO_n' ?_ ?_)
    | (with_reducible refine AW_condI ?_)
    | (with_reducible refine AW_block ?_)
    | ((with_reducible refine condN_t ?_ ?_) <;> (intro hc; (try simp only [Bool.and_eq_true, Bool.or_eq_true, Bool.not_eq_true', Bool.and_eq_false_iff, Bool.or_eq_false_iff, decide_eq_true_eq, decide_eq_false_iff_not, bne_iff_ne, beq_iff_eq, reduceCtorEq, bne_eq_false_iff_eq, beq_eq_false_iff_ne, Bool.not_eq_false', Int.not_le, Int.not_lt, Bool.not_not] at hc); (skip); (try (exfalso; first | contradiction | omega))))
    | (with_reducible refine AW_regionP 0 [0] ?_)
    | (with_reducible refine AW_regionP 1 [0, 2] ?_)
    | (with_reducible refine AW_regionP 2 [2] ?_)
    | (with_reducible refine AW_regionP 3 [0, 2] ?_)
    | (with_reducible refine AW_regionP 4 [0, 2, 4] ?_)
    | (with_reducible refine AW_regionP 5 [0, 2, 4, 5] ?_)
    | (with_reducible refine AW_regionP 6 [0, 2, 4, 5] ?_)
    | ((with_reducible refine AW_prune (c := Code.region 7 _ true) [0, 2, 4, 5] ?_); (with_reducible refine AW_regionB 4 ?_ ?_ ?_ ?_ ?_); (focus kernel_rfl); (focus kernel_rfl); (focus kernel_rfl); (focus kernel_rfl))
    | (with_reducible refine AW_regionP 8 [2, 4] ?_)
    | ((with_reducible refine And.intro ?_ ?_); focus ((with_reducible show chkS _ _ _ _ = true); kernel_rfl))
    | ((with_reducible refine And.intro ?_ ?_); focus ((with_reducible show chkR _ _ _ = true); kernel_rfl))
    | ((fail_if_success (with_reducible show AW _ _ _ _)); simp (maxSteps := 2000000) only [go_sem, reduceIte, reduceCtorEq, Nat.reduceAdd, Nat.reduceLT, Nat.reduceLeDiff, Nat.reduceEqDiff, Nat.reduceMul, Nat.reduceSub, Nat.reduceBEq, Try.f16, zc_24, fo_24, ty_24, of_24_0, ty_22, sl_25, zc_5, sl_22, zc_25, bytI, rowsI, h1, h2, decide_true, decide_false])
    | ((fail_if_success (with_reducible show AW _ _ _ _)); simp (disch := omega) only [seaWrap, seaDiv, seaMod])
    | ((with_reducible refine hK _ ?_); clear hK K))
  all_goals (simp only [newN, newE, hb, Bool.false_eq_true, if_false]; first | exact ⟨rfl, rfl⟩ | exact ⟨⟨rfl, rfl⟩, rfl⟩ | exact ⟨trivial, trivial⟩ | trivial)

set_option maxRecDepth 100000 in
set_option maxHeartbeats 4000000 in
theorem rnew_ok (n : Nat) (h3 : 3 ≤ n) (h63 : n ≤ 63) : CallsP Try.prog 16 [.one (.g (.int .i64 ((n : Int))))] (.tup [.agg [.lst 1 (newN (n : Int)) (rowsI (c64) (zD))], .one (.g (.int .i64 (newE (n : Int))))]) := by
  have h1 : ((n : Int) < 3) = False := eq_false (by omega)
  have h2 : ((n : Int) > 63) = False := eq_false (by omega)
  refine CallsP_of Try.func16 rfl (by rw [Try.ntmps16]; simp) ?_
  simp only [Try.ntmps16, List.map_cons, List.map_nil, PT.tv, argEnv, Nat.zero_add, Nat.reduceAdd]
  repeat' (first
    | (with_reducible refine AW_seq_k fun K hK => ?_)
    | ((first | (with_reducible refine And.intro ?_ ?_) | (with_reducible refine Need.mk ?_)); focus (first | exact True.intro | (with_reducible assumption) | omega | (refine ⟨?_, ?_⟩ <;> omega) | (intro _; first | exact True.intro | (with_reducible assumption) | omega) | (intros; (repeat' (first | exact True.intro | omega | (with_reducible assumption) | (with_reducible refine And.intro ?_ ?_))); done) | (simp (disch := omega) only [Bool.and_eq_true, Bool.or_eq_true, decide_eq_true_eq, bne_iff_ne, ne_eq] at *; first | done | omega | (intros; omega)) | (simp; done) | (simp; omega) | (simp +contextual; done) | (intro h; rw [h]; rfl) | (intros; simp_all; done)))
    | (with_reducible refine AW_skip ?_)
    | (with_reducible refine AW_exit ?_)
    | (with_reducible refine AW_ret ?_)
    | (with_reducible refine retK_n ?_)
    | (with_reducible refine retK_n' ?_)
    | (with_reducible refine retH_n rfl rfl rfl ?_)
    | (with_reducible refine retH_n' rfl rfl rfl ?_)
    | (with_reducible refine retO_n ?_ ?_)
    | (with_reducible refine retO_n' ?_ ?_)
    | (with_reducible refine AW_condI ?_)
    | (with_reducible refine AW_block ?_)
    | ((with_reducible refine condN_t ?_ ?_) <;> (intro hc; (try simp only [Bool.and_eq_true, Bool.or_eq_true, Bool.not_eq_true', Bool.and_eq_false_iff, Bool.or_eq_false_iff, decide_eq_true_eq, decide_eq_false_iff_not, bne_iff_ne, beq_iff_eq, reduceCtorEq, bne_eq_false_iff_eq, beq_eq_false_iff_ne, Bool.not_eq_false', Int.not_le, Int.not_lt, Bool.not_not] at hc); (skip); (try (exfalso; first | contradiction | omega))))
    | (with_reducible refine AW_regionP 0 [0] ?_)
    | (with_reducible refine AW_regionP 1 [0, 2] ?_)
    | (with_reducible refine AW_regionP 2 [2] ?_)
    | (with_reducible refine AW_regionP 3 [0, 2] ?_)
    | (with_reducible refine AW_regionP 4 [0, 2, 4] ?_)
    | (with_reducible refine AW_regionP 5 [0, 2, 4, 5] ?_)
    | (with_reducible refine AW_frz (c := Code.region 6 _ false) [5] ?_ (AW_regionP 6 [0, 2, 4, 5] ?_))
    | ((with_reducible refine AW_prune (c := Code.region 7 _ true) [0, 2, 4, 5] ?_); (with_reducible refine AW_regionB 4 ?_ ?_ ?_ ?_ ?_); (focus kernel_rfl); (focus kernel_rfl); (focus kernel_rfl); (focus kernel_rfl))
    | (with_reducible refine AW_regionP 8 [2, 4] ?_)
    | ((with_reducible refine And.intro ?_ ?_); focus ((with_reducible show chkS _ _ _ _ = true); kernel_rfl))
    | ((with_reducible refine And.intro ?_ ?_); focus ((with_reducible show chkR _ _ _ = true); kernel_rfl))
    | ((with_reducible refine AW_loopQ (c := (Code.seq (Code.seq (Code.region 5 _ _) _) _)) (ι := Nat) [0, 2, 4] (fun k => [(5, iA .i64 (k : Int))]) (fun k => [(1, [.slc 2 0 k 1]), (2, rowV zI k)]) (fun k => k ≤ n) (fun k => n - k) 0 ?lg5 ?l15 ?l25 ?li5 ?lr5); (case' lg5 => rintro k _); (case' li5 => try (first | trivial | omega | (simp; done) | (simp; omega))); (case' lr5 => rintro k hk KR hR5; skip; simp only [keepE, hupd, hset, lk, if_true, if_false, Nat.reduceEqDiff, reduceIte, List.cons_append, List.nil_append, bytI, rowsI, h1, h2, decide_true, decide_false, repC_u8, toNat64, maxLen]))
    | ((with_reducible refine hR5 _ (k + 1) ?_); (try clear hR5 KR))
    | ((with_reducible refine Told.mk ?_); simp only [go_sem, reduceIte, reduceCtorEq, Nat.reduceAdd, Nat.reduceLT, Nat.reduceLeDiff, Nat.reduceEqDiff, Nat.reduceMul, Nat.reduceSub, Nat.reduceBEq, bytI, rowsI, h1, h2, decide_true, decide_false, repC_u8, toNat64, maxLen] <;> (first | exact True.intro | (((try simp (disch := omega) only [seaWrap, Int.natCast_add, Int.cast_ofNat_Int, and_true, true_and, and_self]); (repeat' (first | exact True.intro | omega | rfl | (with_reducible assumption) | (with_reducible refine And.intro ?_ ?_) | (exact all_succ (by assumption) (by assumption)) | (exact wkC_same _ _) | ((refine wkC_snoc' ⟨rfl, rfl, fun i o hi ho => ?_⟩; exact rowV_eqv' (F := bytI fun _ => 0) (fun j hj => IV.eqv_refl _) i o hi ho)))); done)) | (refine Stuck.out ?_)))
    | ((fail_if_success (with_reducible show AW _ _ _ _)); simp (maxSteps := 2000000) only [go_sem, reduceIte, reduceCtorEq, Nat.reduceAdd, Nat.reduceLT, Nat.reduceLeDiff, Nat.reduceEqDiff, Nat.reduceMul, Nat.reduceSub, Nat.reduceBEq, Try.f16, zc_24, fo_24, ty_24, of_24_0, ty_22, sl_25, zc_5, sl_22, zc_25, bytI, rowsI, h1, h2, decide_true, decide_false, repC_u8, toNat64, maxLen])
    | ((fail_if_success (with_reducible show AW _ _ _ _)); simp (disch := omega) only [seaWrap, seaDiv, seaMod])
    | ((with_reducible refine hK _ ?_); clear hK K)
    | (with_reducible apply_assumption -exfalso only [*]))
  · have hb : newB (n : Int) = false := decide_eq_false (by omega)
    simp only [newN, newE, hb, Bool.false_eq_true, if_false]; exact ⟨trivial, trivial⟩
  · have hb : newB (n : Int) = true := decide_eq_true (by omega)
    obtain rfl : n = k := (by omega)
    simp only [newN, newE, hb, if_true, Int.toNat_natCast]
    exact ⟨⟨trivial, fun i o hi ho => rowV_eqv' (f := zI) (F := rowsI c64 zD) (fun j hj => IV.eqv_refl _) i o hi ho⟩, trivial⟩

theorem rnew_p (x : Int) (hx : -9223372036854775808 ≤ x ∧ x ≤ 9223372036854775807) : CallsP Try.prog 16 [.one (.g (.int .i64 (x)))] (.tup [.agg [.lst 1 (newN x) (rowsI (c64) (zD))], .one (.g (.int .i64 (newE x)))]) := by
  by_cases h1 : x < 3
  · exact rnew_b1 x hx h1
  · by_cases h2 : 63 < x
    · exact rnew_b2 x hx h2
    · obtain ⟨n, rfl⟩ : ∃ n : Nat, x = (n : Int) := ⟨x.toNat, by omega⟩
      exact rnew_ok n (by omega) (by omega)

def snocM (n : Nat) (m : Nat → Nat) (r : Nat) (i : Nat) : Nat := if i < n then m i else r
def snocD (n : Nat) (D : Nat → Nat → Int) (R : Nat → Int) (i : Nat) : Nat → Int := if i < n then D i else R
def rowIV (m : Nat → Nat) (D : Nat → Nat → Int) (i : Nat) : IV := .lst 1 (m i) (bytI (D i))
theorem snoc_eqv (n : Nat) (m : Nat → Nat) (D : Nat → Nat → Int) (r : Nat) (R : Nat → Int) (j : Nat) : (if j < n then rowIV m D j else .lst 1 r (bytI R)).eqv (rowsI (snocM n m r) (snocD n D R) j 0) := by
  unfold rowIV rowsI snocM snocD
  by_cases h : j < n
  · simp only [if_pos h]; exact IV.eqv_refl _
  · simp only [if_neg h]; exact IV.eqv_refl _

set_option maxRecDepth 100000 in
set_option maxHeartbeats 4000000 in
theorem with_p (n : Nat) (m : Nat → Nat) (D : Nat → Nat → Int) (hn : n ≤ 1000000) (hm : ∀ i, i < n → m i ≤ 9223372036854775807) (r : Nat) (R : Nat → Int) : CallsP Try.prog 33 [.one (.lst 1 (n) (rowsI (m) (D))), .one (.lst 1 (r) (bytI (R)))] (.t (.one (.lst 1 (n + 1) (rowsI (snocM n m r) (snocD n D R))))) := by
  refine CallsP_of Try.func33 rfl (by rw [Try.ntmps33]; simp) ?_
  simp only [Try.ntmps33, List.map_cons, List.map_nil, PT.tv, argEnv, Nat.zero_add, Nat.reduceAdd]
  repeat' (first
    | (with_reducible refine AW_seq_k fun K hK => ?_)
    | ((first | (with_reducible refine And.intro ?_ ?_) | (with_reducible refine Need.mk ?_)); focus (first | exact True.intro | (with_reducible assumption) | omega | (refine ⟨?_, ?_⟩ <;> omega) | (intro _; first | exact True.intro | (with_reducible assumption) | omega) | (intros; (repeat' (first | exact True.intro | omega | (with_reducible assumption) | (with_reducible refine And.intro ?_ ?_))); done) | (simp (disch := omega) only [Bool.and_eq_true, Bool.or_eq_true, decide_eq_true_eq, bne_iff_ne, ne_eq] at *; first | done | omega | (intros; omega)) | (simp; done) | (simp; omega) | (simp +contextual; done) | (intro h; rw [h]; rfl) | (intros; simp_all; done)))
    | (with_reducible refine AW_skip ?_)
    | (with_reducible refine AW_exit ?_)
    | (with_reducible refine AW_ret ?_)
    | (with_reducible refine retK_n ?_)
    | (with_reducible refine retK_n' ?_)
    | (with_reducible refine retH_n rfl rfl rfl ?_)
    | (with_reducible refine retH_n' rfl rfl rfl ?_)
    | (with_reducible refine retO_n ?_ ?_)
    | (with_reducible refine retO_n' ?_ ?_)
    | (with_reducible refine AW_condI ?_)
    | (with_reducible refine AW_block ?_)
    | ((with_reducible refine condN_t ?_ ?_) <;> (intro hc; (try simp only [Bool.and_eq_true, Bool.or_eq_true, Bool.not_eq_true', Bool.and_eq_false_iff, Bool.or_eq_false_iff, decide_eq_true_eq, decide_eq_false_iff_not, bne_iff_ne, beq_iff_eq, reduceCtorEq, bne_eq_false_iff_eq, beq_eq_false_iff_ne, Bool.not_eq_false', Int.not_le, Int.not_lt, Bool.not_not] at hc); (skip); (try (exfalso; first | contradiction | omega))))
    | (with_reducible refine AW_regionP 0 [0, 1] ?_)
    | (with_reducible refine AW_regionP 1 [0, 1] ?_)
    | ((fail_if_success (with_reducible show AW _ _ _ _)); simp (maxSteps := 2000000) only [go_sem, reduceIte, reduceCtorEq, Nat.reduceAdd, Nat.reduceLT, Nat.reduceLeDiff, Nat.reduceEqDiff, Nat.reduceMul, Nat.reduceSub, Nat.reduceBEq, Try.f33, sl_22, zc_25, bytI, rowsI, lstC_row, maxLen])
    | ((with_reducible refine hK _ ?_); clear hK K))
  all_goals (rw [rowV_app1]; refine ⟨⟨by rw [rowV_len]; exact Nat.le_refl _, rowV_iv _ _⟩, fun i o hi ho => ?_⟩; obtain rfl : o = 0 := (by omega); exact rowV_eqv' (F := rowsI (snocM n m r) (snocD n D R)) (fun j hj => snoc_eqv n m D r R j) i 0 (by omega) ho)

end Go.Proofs.Ytifoncmlelinjaa
