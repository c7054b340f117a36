/- G: walks on abstract states. -/
import Derived.Test.YtifoncmlelinjaaF
set_option linter.unusedVariables false
set_option linter.unusedSimpArgs false
namespace Go.Proofs.Ytifoncmlelinjaa
open Go.RowKit Go.Sea
attribute [local go_sem] callK_N gf gk gdrop lkL setL lsF ltAll rdyL bodyF roundQ roundS loopQ loopS jumpOf inLs yV yA bAV zipPut purgeG List.tail_cons Option.isNone_none Option.isNone_some callGK_f callDK_f callDGK_f retN retHN blockA arun_nil arun_plain arun_guard plainF guardF guardB arunD_nil arunD_plain arunD_guard plainDF guardDF guardDB AS.ent Eff.noApp Eff.tgt ftF AV.refs TV.refs CV.refs LV.refs Op.operands Call.operands List.append_toArray List.push_toArray List.flatMap_cons List.flatMap_nil List.toList_toArray Option.toArray nidF nidA List.reverse_cons List.reverse_nil opF AS.ev constA lk AS.get AV.tv AV.nd AS.eff AS.put argEnv PT.tv PV.av AV.mbOf hset hget TV.cells dstOk thenA gB isB toB TV.bool? TV.int? intF loadF storeF fieldF indexF lenF sliceF optI appF minmaxF ipCells fillF partsF lvsF TV.lv LV.tv purgeE purgeC purgeH AV.purge CV.purge AV.has TV.has CV.has LV.has calleeF argsF tvsF toPT toIV toIVs toPTs toPV iA bA List.map_cons List.map_nil List.length_nil List.length_cons List.getElem?_cons_zero List.getElem?_cons_succ List.getElem?_nil Option.getD_some Option.getD_none Option.bind_some Option.bind_none List.take_succ_cons List.take_zero List.drop_succ_cons List.drop_zero List.take_nil List.drop_nil List.cons_append List.nil_append List.append_nil List.getD_cons_zero List.getD_cons_succ Option.map_some Option.map_none Option.isSome_some Option.isSome_none List.size_toArray List.any_cons List.any_nil List.mem_cons if_true if_false ite_true ite_false cond_true cond_false Nat.zero_add Nat.add_zero Nat.sub_zero Nat.le_refl Nat.zero_mul Nat.mul_zero Nat.one_mul Nat.mul_one Int.toNat_zero Int.toNat_natCast Bool.or_false Bool.false_or Bool.or_true Bool.true_or Bool.and_true Bool.true_and Bool.and_false Bool.false_and beq_self_eq_true beq_true beq_false Bool.not_true Bool.not_false and_true true_and and_false false_and and_self imp_self Bool.cond_false_right Bool.cond_true_left implies_true forall_const true_implies false_implies Option.some.injEq Prod.mk.injEq ne_eq not_false_eq_true not_true_eq_false eq_self Nat.lt_irrefl Nat.not_lt_zero op2F ncF slice3F offF slArrF copyF clearF toArrF callDK_t calleeT eqN barOp boF seaMin seaMax seaNat1 seaNat2 Value.bool.injEq Value.int.injEq srcF lstC TV.dp IV.eqv PT.eqv PV.eqv All2 keepE hupd callZ_N AS.frz AS.frzW frzs frzsOk frzOk frzE frzA frzT frzC frzG frzH hdel cmpS eqF eqC gvs eqVs eqV decide_true resF tupA inlQ okL okGL okG nextL wkH wkC wkV nilA nilC AV.ok TV.ok CV.ok LV.ok okB forall_eq_or_imp forall_eq List.not_mem_nil List.mem_singleton true_or or_true or_false false_or or_self exists_prop AV.t.injEq TV.one.injEq CV.iv.injEq IV.g.injEq TV.agg.injEq List.cons.injEq repC_0 repC_1 repC_2 repC_3 rowV_len rowV_pur rowV_has rowV_frz frzC isIv_iv civ_iv rowV_all List.map_append retON AV.to TV.to CV.to
theorem fnok_14 : fnOk Try.prog 14 = true := by kernel_rfl

def readN (n : Nat) (m : Nat → Nat) (D : Nat → Nat → Int) : Nat := if vB n m D = true then cnt (hv n D) (hlf n * 64) else 0
theorem endR_le (b : Nat → Int) (L : Nat) : endR b L ≤ L := by
  unfold endR; split
  · exact Nat.zero_le _
  · exact endP_le b L
def rdE (n : Nat) (m : Nat → Nat) (D : Nat → Nat → Int) : Int := if vB n m D = true then 0 else 1
def roomV (n : Nat) (m : Nat → Nat) (D : Nat → Nat → Int) : Int := if vB n m D = true ∧ endP (hv n D) (hlf n * 64) + 3 ≤ hlf n * 64 then ((hlf n * 64 - endP (hv n D) (hlf n * 64) - 3 : Nat) : Int) else 0
def roomE (n : Nat) (m : Nat → Nat) (D : Nat → Nat → Int) : Int := if vB n m D = true then (if endP (hv n D) (hlf n * 64) + 3 ≤ hlf n * 64 then 0 else 17) else 1

set_option maxRecDepth 100000 in
set_option maxHeartbeats 4000000 in
theorem read_b1 (n : Nat) (m : Nat → Nat) (D : Nat → Nat → Int) (hn : n ≤ 9223372036854775807) (hm : ∀ i, i < n → m i ≤ 9223372036854775807) (hs : sizedB n m = false) : CallsP Try.prog 24 [.agg [.lst 1 (n) (rowsI (m) (D))]] (.tup [.one (.lst 1 (readN n m D) (rowsI (recL (hv n D)) (recF (hv n D)))), .one (.g (.int .i64 (rdE n m D)))]) := by
  have hv_ : vB n m D = false := vB_no1 hs
  refine CallsP_of Try.func24 rfl (by rw [Try.ntmps24]; simp) ?_
  simp only [Try.ntmps24, List.map_cons, List.map_nil, PT.tv, argEnv, Nat.zero_add, Nat.reduceAdd]
  repeat' (first
    | (with_reducible refine AW_seq_k fun K hK => ?_)
    | ((first | (with_reducible refine And.intro ?_ ?_) | (with_reducible refine Need.mk ?_)); focus (first | exact True.intro | (with_reducible assumption) | omega | (refine ⟨?_, ?_⟩ <;> omega) | (intro _; first | exact True.intro | (with_reducible assumption) | omega) | (intros; (repeat' (first | exact True.intro | omega | (with_reducible assumption) | (with_reducible refine And.intro ?_ ?_))); done) | (simp (disch := omega) only [Bool.and_eq_true, Bool.or_eq_true, decide_eq_true_eq, bne_iff_ne, ne_eq] at *; first | done | omega | (intros; omega)) | (simp; done) | (simp; omega) | (simp +contextual; done) | (intro h; rw [h]; rfl) | (intros; simp_all; done)))
    | (with_reducible refine AW_skip ?_)
    | (with_reducible refine AW_exit ?_)
    | (with_reducible refine AW_ret ?_)
    | (with_reducible refine retK_n ?_)
    | (with_reducible refine retK_n' ?_)
    | (with_reducible refine retH_n rfl rfl rfl ?_)
    | (with_reducible refine retH_n' rfl rfl rfl ?_)
    | (with_reducible refine retO_n ?_ ?_)
    | (with_reducible refine retO_n' ?_ ?_)
    | (with_reducible refine AW_condI ?_)
    | (with_reducible refine AW_block ?_)
    | ((with_reducible refine condN_t ?_ ?_) <;> (intro hc; (try simp only [Bool.and_eq_true, Bool.or_eq_true, Bool.not_eq_true', Bool.and_eq_false_iff, Bool.or_eq_false_iff, decide_eq_true_eq, decide_eq_false_iff_not, bne_iff_ne, beq_iff_eq, reduceCtorEq, bne_eq_false_iff_eq, beq_eq_false_iff_ne, Bool.not_eq_false', Int.not_le, Int.not_lt, Bool.not_not] at hc); (skip); (try (exfalso; first | contradiction | omega))))
    | (with_reducible refine AW_regionP 0 [0] ?_)
    | (with_reducible refine AW_regionP 1 [1] ?_)
    | (with_reducible refine AW_regionP 2 [5, 6] ?_)
    | (with_reducible refine AW_regionP 3 [] ?_)
    | (with_reducible refine AW_regionP 4 [5] ?_)
    | (refine callN_q (k := 35) fnok_35 (open_b1 n m D hn hm hs) ?_ ?_)
    | ((fail_if_success (with_reducible show AW _ _ _ _)); simp (maxSteps := 2000000) only [go_sem, reduceIte, reduceCtorEq, Nat.reduceAdd, Nat.reduceLT, Nat.reduceLeDiff, Nat.reduceEqDiff, Nat.reduceMul, Nat.reduceSub, Nat.reduceBEq, Try.f24, ty_24, fnok_35, zc_55, ty_55, bytI, rowsI])
    | ((with_reducible refine hK _ ?_); clear hK K))
  all_goals (simp only [readN, rdE, hv_, Bool.false_eq_true, if_false, false_and]; first | exact ⟨rfl, rfl⟩ | exact ⟨⟨rfl, rfl⟩, rfl⟩ | exact ⟨trivial, trivial⟩ | rfl)

set_option maxRecDepth 100000 in
set_option maxHeartbeats 4000000 in
theorem read_b2 (n : Nat) (m : Nat → Nat) (D : Nat → Nat → Int) (hs : Szd n m) (hD : BytD D) (hd : 1 < D 0 0) : CallsP Try.prog 24 [.agg [.lst 1 (n) (rowsI (m) (D))]] (.tup [.one (.lst 1 (readN n m D) (rowsI (recL (hv n D)) (recF (hv n D)))), .one (.g (.int .i64 (rdE n m D)))]) := by
  have h3 := hs.h3
  have h64 := hs.h63
  have hm0 := hs.m 0 (by omega)
  have hm : ∀ i, i < n → m i ≤ 9223372036854775807 := fun i hi => by have := hs.m i hi; omega
  have hsz := hs.b
  have hd0 := hD 0 0
  have hd1 : (D 0 0 > 1) = True := eq_true hd
  have hv_ : vB n m D = false := vB_no2 hd
  refine CallsP_of Try.func24 rfl (by rw [Try.ntmps24]; simp) ?_
  simp only [Try.ntmps24, List.map_cons, List.map_nil, PT.tv, argEnv, Nat.zero_add, Nat.reduceAdd]
  repeat' (first
    | (with_reducible refine AW_seq_k fun K hK => ?_)
    | ((first | (with_reducible refine And.intro ?_ ?_) | (with_reducible refine Need.mk ?_)); focus (first | exact True.intro | (with_reducible assumption) | omega | (refine ⟨?_, ?_⟩ <;> omega) | (intro _; first | exact True.intro | (with_reducible assumption) | omega) | (intros; (repeat' (first | exact True.intro | omega | (with_reducible assumption) | (with_reducible refine And.intro ?_ ?_))); done) | (simp (disch := omega) only [Bool.and_eq_true, Bool.or_eq_true, decide_eq_true_eq, bne_iff_ne, ne_eq] at *; first | done | omega | (intros; omega)) | (simp; done) | (simp; omega) | (simp +contextual; done) | (intro h; rw [h]; rfl) | (intros; simp_all; done)))
    | (with_reducible refine AW_skip ?_)
    | (with_reducible refine AW_exit ?_)
    | (with_reducible refine AW_ret ?_)
    | (with_reducible refine retK_n ?_)
    | (with_reducible refine retK_n' ?_)
    | (with_reducible refine retH_n rfl rfl rfl ?_)
    | (with_reducible refine retH_n' rfl rfl rfl ?_)
    | (with_reducible refine retO_n ?_ ?_)
    | (with_reducible refine retO_n' ?_ ?_)
    | (with_reducible refine AW_condI ?_)
    | (with_reducible refine AW_block ?_)
    | ((with_reducible refine condN_t ?_ ?_) <;> (intro hc; (try simp only [Bool.and_eq_true, Bool.or_eq_true, Bool.not_eq_true', Bool.and_eq_false_iff, Bool.or_eq_false_iff, decide_eq_true_eq, decide_eq_false_iff_not, bne_iff_ne, beq_iff_eq, reduceCtorEq, bne_eq_false_iff_eq, beq_eq_false_iff_ne, Bool.not_eq_false', Int.not_le, Int.not_lt, Bool.not_not] at hc); (skip); (try (exfalso; first | contradiction | omega))))
    | (with_reducible refine AW_regionP 0 [0] ?_)
    | (with_reducible refine AW_regionP 1 [1] ?_)
    | (with_reducible refine AW_regionP 2 [5, 6] ?_)
    | (with_reducible refine AW_regionP 3 [] ?_)
    | (with_reducible refine AW_regionP 4 [5] ?_)
    | (refine callN_q (k := 35) fnok_35 (open_b2 n m D hs hD hd) ?_ ?_)
    | ((fail_if_success (with_reducible show AW _ _ _ _)); simp (maxSteps := 2000000) only [go_sem, reduceIte, reduceCtorEq, Nat.reduceAdd, Nat.reduceLT, Nat.reduceLeDiff, Nat.reduceEqDiff, Nat.reduceMul, Nat.reduceSub, Nat.reduceBEq, Try.f24, ty_24, fnok_35, zc_55, ty_55, bytI, rowsI])
    | ((with_reducible refine hK _ ?_); clear hK K))
  all_goals (simp only [readN, rdE, hv_, Bool.false_eq_true, if_false, false_and]; first | exact ⟨rfl, rfl⟩ | exact ⟨⟨rfl, rfl⟩, rfl⟩ | exact ⟨trivial, trivial⟩ | rfl)

set_option maxRecDepth 100000 in
set_option maxHeartbeats 4000000 in
theorem read_ok (n : Nat) (m : Nat → Nat) (D : Nat → Nat → Int) (hs : Szd n m) (hD : BytD D) (k : Nat) (hk1 : k ≤ 1) (hk : D 0 0 = (k : Int)) : CallsP Try.prog 24 [.agg [.lst 1 (n) (rowsI (m) (D))]] (.tup [.one (.lst 1 (readN n m D) (rowsI (recL (hv n D)) (recF (hv n D)))), .one (.g (.int .i64 (rdE n m D)))]) := by
  have h3 := hs.h3
  have h64 := hs.h63
  have hl := hs.hlf
  have hm0 := hs.m 0 (by omega)
  have hm : ∀ i, i < n → m i ≤ 9223372036854775807 := fun i hi => by have := hs.m i hi; omega
  have hsz := hs.b
  have hd0 := hD 0 0
  have hd1 : ((k : Int) > 1) = False := eq_false (by omega)
  have hv_ := vB_ok hs hk1 hk
  have hh_ := hv_k (n := n) hk
  have hle := endP_le (halfF n D k) (hlf n * 64)
  have hlr := endR_le (halfF n D k) (hlf n * 64)
  refine CallsP_of Try.func24 rfl (by rw [Try.ntmps24]; simp) ?_
  simp only [Try.ntmps24, List.map_cons, List.map_nil, PT.tv, argEnv, Nat.zero_add, Nat.reduceAdd]
  repeat' (first
    | (with_reducible refine AW_seq_k fun K hK => ?_)
    | ((first | (with_reducible refine And.intro ?_ ?_) | (with_reducible refine Need.mk ?_)); focus (first | exact True.intro | (with_reducible assumption) | omega | (refine ⟨?_, ?_⟩ <;> omega) | (intro _; first | exact True.intro | (with_reducible assumption) | omega) | (intros; (repeat' (first | exact True.intro | omega | (with_reducible assumption) | (with_reducible refine And.intro ?_ ?_))); done) | (simp (disch := omega) only [Bool.and_eq_true, Bool.or_eq_true, decide_eq_true_eq, bne_iff_ne, ne_eq] at *; first | done | omega | (intros; omega)) | (simp; done) | (simp; omega) | (simp +contextual; done) | (intro h; rw [h]; rfl) | (intros; simp_all; done)))
    | (with_reducible refine AW_skip ?_)
    | (with_reducible refine AW_exit ?_)
    | (with_reducible refine AW_ret ?_)
    | (with_reducible refine retK_n ?_)
    | (with_reducible refine retK_n' ?_)
    | (with_reducible refine retH_n rfl rfl rfl ?_)
    | (with_reducible refine retH_n' rfl rfl rfl ?_)
    | (with_reducible refine retO_n ?_ ?_)
    | (with_reducible refine retO_n' ?_ ?_)
    | (with_reducible refine AW_condI ?_)
    | (with_reducible refine AW_block ?_)
    | ((with_reducible refine condN_t ?_ ?_) <;> (intro hc; (try simp only [Bool.and_eq_true, Bool.or_eq_true, Bool.not_eq_true', Bool.and_eq_false_iff, Bool.or_eq_false_iff, decide_eq_true_eq, decide_eq_false_iff_not, bne_iff_ne, beq_iff_eq, reduceCtorEq, bne_eq_false_iff_eq, beq_eq_false_iff_ne, Bool.not_eq_false', Int.not_le, Int.not_lt, Bool.not_not] at hc); (skip); (try (exfalso; first | contradiction | omega))))
    | (with_reducible refine AW_regionP 0 [0] ?_)
    | (with_reducible refine AW_regionP 1 [1] ?_)
    | (with_reducible refine AW_regionP 2 [5, 6] ?_)
    | (with_reducible refine AW_regionP 3 [] ?_)
    | (with_reducible refine AW_regionP 4 [5] ?_)
    | (refine callN_q (k := 35) fnok_35 (open_ok n m D hs hD k hk1 hk) ?_ ?_)
    | ((fail_if_success (with_reducible show AW _ _ _ _)); simp (maxSteps := 2000000) only [go_sem, reduceIte, reduceCtorEq, Nat.reduceAdd, Nat.reduceLT, Nat.reduceLeDiff, Nat.reduceEqDiff, Nat.reduceMul, Nat.reduceSub, Nat.reduceBEq, Try.f24, ty_24, fnok_35, zc_55, ty_55, bytI, rowsI, hm0, hk])
    | ((with_reducible refine hK _ ?_); clear hK K))
  all_goals (simp only [readN, rdE, hv_, hh_, hc, Bool.false_eq_true, if_false, if_true, true_and, false_and])
  all_goals (try rw [outN_ok hc])
  all_goals (first | exact ⟨rfl, rfl⟩ | exact ⟨⟨rfl, rfl⟩, rfl⟩ | exact ⟨⟨rfl, fun i o hi ho i' o' hi' ho' => trivial⟩, trivial⟩ | exact ⟨trivial, trivial⟩ | rfl | (have h1 : okP (halfF n D k) (hlf n * 64) = true := (by assumption); have h2 := endR_ok h1; first | (rw [if_neg (fun h => by omega), if_pos h1, if_neg (by omega)]; exact ⟨rfl, rfl⟩) | (rw [if_pos ⟨h1, by omega⟩, if_pos h1, if_pos (by omega)]; exact ⟨by omega, rfl⟩)))

theorem read_p (n : Nat) (m : Nat → Nat) (D : Nat → Nat → Int) (hn : n ≤ 9223372036854775807) (hm : ∀ i, i < n → m i ≤ 9223372036854775807) (hD : BytD D) : CallsP Try.prog 24 [.agg [.lst 1 (n) (rowsI (m) (D))]] (.tup [.one (.lst 1 (readN n m D) (rowsI (recL (hv n D)) (recF (hv n D)))), .one (.g (.int .i64 (rdE n m D)))]) := by
  rcases disk_cases n m D hD with hs | ⟨hs, hd⟩ | ⟨k, hs, hk1, hk⟩
  · exact read_b1 n m D hn hm hs
  · exact read_b2 n m D hs hD hd
  · exact read_ok n m D hs hD k hk1 hk

set_option maxRecDepth 100000 in
set_option maxHeartbeats 4000000 in
theorem rread_b1 (n : Nat) (m : Nat → Nat) (D : Nat → Nat → Int) (hn : n ≤ 9223372036854775807) (hm : ∀ i, i < n → m i ≤ 9223372036854775807) (hs : sizedB n m = false) : CallsP Try.prog 25 [.agg [.lst 1 (n) (rowsI (m) (D))]] (.tup [.one (.lst 1 (readN n m D) (rowsI (recL (hv n D)) (recF (hv n D)))), .one (.g (.int .i64 (rdE n m D)))]) := by
  have hv_ : vB n m D = false := vB_no1 hs
  refine CallsP_of Try.func25 rfl (by rw [Try.ntmps25]; simp) ?_
  simp only [Try.ntmps25, List.map_cons, List.map_nil, PT.tv, argEnv, Nat.zero_add, Nat.reduceAdd]
  repeat' (first
    | (with_reducible refine AW_seq_k fun K hK => ?_)
    | ((first | (with_reducible refine And.intro ?_ ?_) | (with_reducible refine Need.mk ?_)); focus (first | exact True.intro | (with_reducible assumption) | omega | (refine ⟨?_, ?_⟩ <;> omega) | (intro _; first | exact True.intro | (with_reducible assumption) | omega) | (intros; (repeat' (first | exact True.intro | omega | (with_reducible assumption) | (with_reducible refine And.intro ?_ ?_))); done) | (simp (disch := omega) only [Bool.and_eq_true, Bool.or_eq_true, decide_eq_true_eq, bne_iff_ne, ne_eq] at *; first | done | omega | (intros; omega)) | (simp; done) | (simp; omega) | (simp +contextual; done) | (intro h; rw [h]; rfl) | (intros; simp_all; done)))
    | (with_reducible refine AW_skip ?_)
    | (with_reducible refine AW_exit ?_)
    | (with_reducible refine AW_ret ?_)
    | (with_reducible refine retK_n ?_)
    | (with_reducible refine retK_n' ?_)
    | (with_reducible refine retH_n rfl rfl rfl ?_)
    | (with_reducible refine retH_n' rfl rfl rfl ?_)
    | (with_reducible refine retO_n ?_ ?_)
    | (with_reducible refine retO_n' ?_ ?_)
    | (with_reducible refine AW_condI ?_)
    | (with_reducible refine AW_block ?_)
    | ((with_reducible refine condN_t ?_ ?_) <;> (intro hc; (try simp only [Bool.and_eq_true, Bool.or_eq_true, Bool.not_eq_true', Bool.and_eq_false_iff, Bool.or_eq_false_iff, decide_eq_true_eq, decide_eq_false_iff_not, bne_iff_ne, beq_iff_eq, reduceCtorEq, bne_eq_false_iff_eq, beq_eq_false_iff_ne, Bool.not_eq_false', Int.not_le, Int.not_lt, Bool.not_not] at hc); (skip); (try (exfalso; first | contradiction | omega))))
    | (with_reducible refine AW_regionP 0 [0] ?_)
    | (with_reducible refine AW_regionP 1 [1] ?_)
    | (with_reducible refine AW_regionP 2 [1, 4] ?_)
    | (with_reducible refine AW_regionP 3 [] ?_)
    | ((with_reducible refine AW_prune (c := Code.region 4 _ true) [1] ?_); (with_reducible refine AW_regionD ?_ ?_ ?_ ?_); (focus kernel_rfl); (focus kernel_rfl); (focus kernel_rfl))
    | (with_reducible refine AW_regionP 5 [5] ?_)
    | ((with_reducible refine And.intro ?_ ?_); focus ((with_reducible show chkR _ _ _ = true); kernel_rfl))
    | (refine callN_q (k := 14) fnok_14 (rvalid_b1 n m D hn hm hs) ?_ ?_)
    | ((fail_if_success (with_reducible show AW _ _ _ _)); simp (maxSteps := 2000000) only [go_sem, reduceIte, reduceCtorEq, Nat.reduceAdd, Nat.reduceLT, Nat.reduceLeDiff, Nat.reduceEqDiff, Nat.reduceMul, Nat.reduceSub, Nat.reduceBEq, Try.f25, ty_24, fnok_14, of_24_0, ty_22, sl_22, ar_22, ty_25, sl_25, ar_25, ty_5, in_3, fnok_38, fnok_37, bytI, rowsI])
    | ((fail_if_success (with_reducible show AW _ _ _ _)); simp (disch := omega) only [seaWrap, seaDiv, seaMod])
    | ((with_reducible refine hK _ ?_); clear hK K))
  all_goals (simp only [readN, rdE, hv_, Bool.false_eq_true, if_false, false_and]; first | exact ⟨rfl, rfl⟩ | exact ⟨⟨rfl, rfl⟩, rfl⟩ | exact ⟨trivial, trivial⟩ | rfl)

set_option maxRecDepth 100000 in
set_option maxHeartbeats 4000000 in
theorem rread_b2 (n : Nat) (m : Nat → Nat) (D : Nat → Nat → Int) (hs : Szd n m) (hD : BytD D) (hd : 1 < D 0 0) : CallsP Try.prog 25 [.agg [.lst 1 (n) (rowsI (m) (D))]] (.tup [.one (.lst 1 (readN n m D) (rowsI (recL (hv n D)) (recF (hv n D)))), .one (.g (.int .i64 (rdE n m D)))]) := by
  have h3 := hs.h3
  have h64 := hs.h63
  have hm0 := hs.m 0 (by omega)
  have hm : ∀ i, i < n → m i ≤ 9223372036854775807 := fun i hi => by have := hs.m i hi; omega
  have hsz := hs.b
  have hd0 := hD 0 0
  have hd1 : (D 0 0 > 1) = True := eq_true hd
  have hv_ : vB n m D = false := vB_no2 hd
  refine CallsP_of Try.func25 rfl (by rw [Try.ntmps25]; simp) ?_
  simp only [Try.ntmps25, List.map_cons, List.map_nil, PT.tv, argEnv, Nat.zero_add, Nat.reduceAdd]
  repeat' (first
    | (with_reducible refine AW_seq_k fun K hK => ?_)
    | ((first | (with_reducible refine And.intro ?_ ?_) | (with_reducible refine Need.mk ?_)); focus (first | exact True.intro | (with_reducible assumption) | omega | (refine ⟨?_, ?_⟩ <;> omega) | (intro _; first | exact True.intro | (with_reducible assumption) | omega) | (intros; (repeat' (first | exact True.intro | omega | (with_reducible assumption) | (with_reducible refine And.intro ?_ ?_))); done) | (simp (disch := omega) only [Bool.and_eq_true, Bool.or_eq_true, decide_eq_true_eq, bne_iff_ne, ne_eq] at *; first | done | omega | (intros; omega)) | (simp; done) | (simp; omega) | (simp +contextual; done) | (intro h; rw [h]; rfl) | (intros; simp_all; done)))
    | (with_reducible refine AW_skip ?_)
    | (with_reducible refine AW_exit ?_)
    | (with_reducible refine AW_ret ?_)
    | (with_reducible refine retK_n ?_)
    | (with_reducible refine retK_n' ?_)
    | (with_reducible refine retH_n rfl rfl rfl ?_)
    | (with_reducible refine retH_n' rfl rfl rfl ?_)
    | (with_reducible refine retO_n ?_ ?_)
    | (with_reducible refine retO_n' ?_ ?_)
    | (with_reducible refine AW_condI ?_)
    | (with_reducible refine AW_block ?_)
    | ((with_reducible refine condN_t ?_ ?_) <;> (intro hc; (try simp only [Bool.and_eq_true, Bool.or_eq_true, Bool.not_eq_true', Bool.and_eq_false_iff, Bool.or_eq_false_iff, decide_eq_true_eq, decide_eq_false_iff_not, bne_iff_ne, beq_iff_eq, reduceCtorEq, bne_eq_false_iff_eq, beq_eq_false_iff_ne, Bool.not_eq_false', Int.not_le, Int.not_lt, Bool.not_not] at hc); (skip); (try (exfalso; first | contradiction | omega))))
    | (with_reducible refine AW_regionP 0 [0] ?_)
    | (with_reducible refine AW_regionP 1 [1] ?_)
    | (with_reducible refine AW_regionP 2 [1, 4] ?_)
    | (with_reducible refine AW_regionP 3 [] ?_)
    | ((with_reducible refine AW_prune (c := Code.region 4 _ true) [1] ?_); (with_reducible refine AW_regionD ?_ ?_ ?_ ?_); (focus kernel_rfl); (focus kernel_rfl); (focus kernel_rfl))
    | (with_reducible refine AW_regionP 5 [5] ?_)
    | ((with_reducible refine And.intro ?_ ?_); focus ((with_reducible show chkR _ _ _ = true); kernel_rfl))
    | (refine callN_q (k := 14) fnok_14 (rvalid_b2 n m D hs hD hd) ?_ ?_)
    | ((fail_if_success (with_reducible show AW _ _ _ _)); simp (maxSteps := 2000000) only [go_sem, reduceIte, reduceCtorEq, Nat.reduceAdd, Nat.reduceLT, Nat.reduceLeDiff, Nat.reduceEqDiff, Nat.reduceMul, Nat.reduceSub, Nat.reduceBEq, Try.f25, ty_24, fnok_14, of_24_0, ty_22, sl_22, ar_22, ty_25, sl_25, ar_25, ty_5, in_3, fnok_38, fnok_37, bytI, rowsI])
    | ((fail_if_success (with_reducible show AW _ _ _ _)); simp (disch := omega) only [seaWrap, seaDiv, seaMod])
    | ((with_reducible refine hK _ ?_); clear hK K))
  all_goals (simp only [readN, rdE, hv_, Bool.false_eq_true, if_false, false_and]; first | exact ⟨rfl, rfl⟩ | exact ⟨⟨rfl, rfl⟩, rfl⟩ | exact ⟨trivial, trivial⟩ | rfl)

set_option maxRecDepth 100000 in
set_option maxHeartbeats 4000000 in
theorem rread_ok (n : Nat) (m : Nat → Nat) (D : Nat → Nat → Int) (hs : Szd n m) (hD : BytD D) (k : Nat) (hk1 : k ≤ 1) (hk : D 0 0 = (k : Int)) : CallsP Try.prog 25 [.agg [.lst 1 (n) (rowsI (m) (D))]] (.tup [.one (.lst 1 (readN n m D) (rowsI (recL (hv n D)) (recF (hv n D)))), .one (.g (.int .i64 (rdE n m D)))]) := by
  have h3 := hs.h3
  have h64 := hs.h63
  have hl := hs.hlf
  have hm0 := hs.m 0 (by omega)
  have hm : ∀ i, i < n → m i ≤ 9223372036854775807 := fun i hi => by have := hs.m i hi; omega
  have hsz := hs.b
  have hd0 := hD 0 0
  have hd1 : ((k : Int) > 1) = False := eq_false (by omega)
  have hv_ := vB_ok hs hk1 hk
  have hh_ := hv_k (n := n) hk
  have hle := endP_le (halfF n D k) (hlf n * 64)
  have hlr := endR_le (halfF n D k) (hlf n * 64)
  refine CallsP_of Try.func25 rfl (by rw [Try.ntmps25]; simp) ?_
  simp only [Try.ntmps25, List.map_cons, List.map_nil, PT.tv, argEnv, Nat.zero_add, Nat.reduceAdd]
  repeat' (first
    | (with_reducible refine AW_seq_k fun K hK => ?_)
    | ((first | (with_reducible refine And.intro ?_ ?_) | (with_reducible refine Need.mk ?_)); focus (first | exact True.intro | (with_reducible assumption) | omega | (refine ⟨?_, ?_⟩ <;> omega) | (intro _; first | exact True.intro | (with_reducible assumption) | omega) | (intros; (repeat' (first | exact True.intro | omega | (with_reducible assumption) | (with_reducible refine And.intro ?_ ?_))); done) | (simp (disch := omega) only [Bool.and_eq_true, Bool.or_eq_true, decide_eq_true_eq, bne_iff_ne, ne_eq] at *; first | done | omega | (intros; omega)) | (simp; done) | (simp; omega) | (simp +contextual; done) | (intro h; rw [h]; rfl) | (intros; simp_all; done)))
    | (with_reducible refine AW_skip ?_)
    | (with_reducible refine AW_exit ?_)
    | (with_reducible refine AW_ret ?_)
    | (with_reducible refine retK_n ?_)
    | (with_reducible refine retK_n' ?_)
    | (with_reducible refine retH_n rfl rfl rfl ?_)
    | (with_reducible refine retH_n' rfl rfl rfl ?_)
    | (with_reducible refine retO_n ?_ ?_)
    | (with_reducible refine retO_n' ?_ ?_)
    | (with_reducible refine AW_condI ?_)
    | (with_reducible refine AW_block ?_)
    | ((with_reducible refine condN_t ?_ ?_) <;> (intro hc; (try simp only [Bool.and_eq_true, Bool.or_eq_true, Bool.not_eq_true', Bool.and_eq_false_iff, Bool.or_eq_false_iff, decide_eq_true_eq, decide_eq_false_iff_not, bne_iff_ne, beq_iff_eq, reduceCtorEq, bne_eq_false_iff_eq, beq_eq_false_iff_ne, Bool.not_eq_false', Int.not_le, Int.not_lt, Bool.not_not] at hc); (skip); (try (exfalso; first | contradiction | omega))))
    | (with_reducible refine AW_regionP 0 [0] ?_)
    | (with_reducible refine AW_regionP 1 [1] ?_)
    | (with_reducible refine AW_regionP 2 [1, 4] ?_)
    | (with_reducible refine AW_regionP 3 [] ?_)
    | ((with_reducible refine AW_prune (c := Code.region 4 _ true) [1] ?_); (with_reducible refine AW_regionD ?_ ?_ ?_ ?_); (focus kernel_rfl); (focus kernel_rfl); (focus kernel_rfl))
    | (with_reducible refine AW_regionP 5 [5] ?_)
    | ((with_reducible refine And.intro ?_ ?_); focus ((with_reducible show chkR _ _ _ = true); kernel_rfl))
    | (refine callN_q (k := 14) fnok_14 (rvalid_ok n m D hs hD k hk1 hk) ?_ ?_)
    | (refine callDN_q (k := 38) fnok_38 (half_p n m D hs k hk1) ?_ ?_)
    | (refine callDN_q (k := 37) fnok_37 (rparse_p (hlf n * 64) (halfF n D k) (by omega) (hD.half n k)) ?_ ?_)
    | ((fail_if_success (with_reducible show AW _ _ _ _)); simp (maxSteps := 2000000) only [go_sem, reduceIte, reduceCtorEq, Nat.reduceAdd, Nat.reduceLT, Nat.reduceLeDiff, Nat.reduceEqDiff, Nat.reduceMul, Nat.reduceSub, Nat.reduceBEq, Try.f25, ty_24, fnok_14, of_24_0, ty_22, sl_22, ar_22, ty_25, sl_25, ar_25, ty_5, in_3, fnok_38, fnok_37, bytI, rowsI, hm0, hk])
    | ((fail_if_success (with_reducible show AW _ _ _ _)); simp (disch := omega) only [seaWrap, seaDiv, seaMod])
    | ((with_reducible refine hK _ ?_); clear hK K))
  all_goals (simp only [readN, rdE, hv_, hh_, hc, Bool.false_eq_true, if_false, if_true, true_and, false_and])
  all_goals (try rw [outN_ok hc])
  all_goals (first | exact ⟨rfl, rfl⟩ | exact ⟨⟨rfl, rfl⟩, rfl⟩ | exact ⟨⟨rfl, fun i o hi ho i' o' hi' ho' => trivial⟩, trivial⟩ | exact ⟨trivial, trivial⟩ | rfl | (have h1 : okP (halfF n D k) (hlf n * 64) = true := (by assumption); have h2 := endR_ok h1; first | (rw [if_neg (fun h => by omega), if_pos h1, if_neg (by omega)]; exact ⟨rfl, rfl⟩) | (rw [if_pos ⟨h1, by omega⟩, if_pos h1, if_pos (by omega)]; exact ⟨by omega, rfl⟩)))

theorem rread_p (n : Nat) (m : Nat → Nat) (D : Nat → Nat → Int) (hn : n ≤ 9223372036854775807) (hm : ∀ i, i < n → m i ≤ 9223372036854775807) (hD : BytD D) : CallsP Try.prog 25 [.agg [.lst 1 (n) (rowsI (m) (D))]] (.tup [.one (.lst 1 (readN n m D) (rowsI (recL (hv n D)) (recF (hv n D)))), .one (.g (.int .i64 (rdE n m D)))]) := by
  rcases disk_cases n m D hD with hs | ⟨hs, hd⟩ | ⟨k, hs, hk1, hk⟩
  · exact rread_b1 n m D hn hm hs
  · exact rread_b2 n m D hs hD hd
  · exact rread_ok n m D hs hD k hk1 hk

set_option maxRecDepth 100000 in
set_option maxHeartbeats 4000000 in
theorem room_b1 (n : Nat) (m : Nat → Nat) (D : Nat → Nat → Int) (hn : n ≤ 9223372036854775807) (hm : ∀ i, i < n → m i ≤ 9223372036854775807) (hs : sizedB n m = false) : CallsP Try.prog 27 [.agg [.lst 1 (n) (rowsI (m) (D))]] (.tup [.one (.g (.int .i64 (roomV n m D))), .one (.g (.int .i64 (roomE n m D)))]) := by
  have hv_ : vB n m D = false := vB_no1 hs
  refine CallsP_of Try.func27 rfl (by rw [Try.ntmps27]; simp) ?_
  simp only [Try.ntmps27, List.map_cons, List.map_nil, PT.tv, argEnv, Nat.zero_add, Nat.reduceAdd]
  repeat' (first
    | (with_reducible refine AW_seq_k fun K hK => ?_)
    | ((first | (with_reducible refine And.intro ?_ ?_) | (with_reducible refine Need.mk ?_)); focus (first | exact True.intro | (with_reducible assumption) | omega | (refine ⟨?_, ?_⟩ <;> omega) | (intro _; first | exact True.intro | (with_reducible assumption) | omega) | (intros; (repeat' (first | exact True.intro | omega | (with_reducible assumption) | (with_reducible refine And.intro ?_ ?_))); done) | (simp (disch := omega) only [Bool.and_eq_true, Bool.or_eq_true, decide_eq_true_eq, bne_iff_ne, ne_eq] at *; first | done | omega | (intros; omega)) | (simp; done) | (simp; omega) | (simp +contextual; done) | (intro h; rw [h]; rfl) | (intros; simp_all; done)))
    | (with_reducible refine AW_skip ?_)
    | (with_reducible refine AW_exit ?_)
    | (with_reducible refine AW_ret ?_)
    | (with_reducible refine retK_n ?_)
    | (with_reducible refine retK_n' ?_)
    | (with_reducible refine retH_n rfl rfl rfl ?_)
    | (with_reducible refine retH_n' rfl rfl rfl ?_)
    | (with_reducible refine retO_n ?_ ?_)
    | (with_reducible refine retO_n' ?_ ?_)
    | (with_reducible refine AW_condI ?_)
    | (with_reducible refine AW_block ?_)
    | ((with_reducible refine condN_t ?_ ?_) <;> (intro hc; (try simp only [Bool.and_eq_true, Bool.or_eq_true, Bool.not_eq_true', Bool.and_eq_false_iff, Bool.or_eq_false_iff, decide_eq_true_eq, decide_eq_false_iff_not, bne_iff_ne, beq_iff_eq, reduceCtorEq, bne_eq_false_iff_eq, beq_eq_false_iff_ne, Bool.not_eq_false', Int.not_le, Int.not_lt, Bool.not_not] at hc); (skip); (try (exfalso; first | contradiction | omega))))
    | (with_reducible refine AW_regionP 0 [0] ?_)
    | (with_reducible refine AW_regionP 1 [1] ?_)
    | (with_reducible refine AW_regionP 2 [4, 6] ?_)
    | (with_reducible refine AW_regionP 3 [] ?_)
    | (with_reducible refine AW_regionP 4 [4] ?_)
    | (with_reducible refine AW_regionP 5 [7] ?_)
    | (with_reducible refine AW_regionP 6 [] ?_)
    | (with_reducible refine AW_regionP 7 [7] ?_)
    | (refine callN_q (k := 35) fnok_35 (open_b1 n m D hn hm hs) ?_ ?_)
    | ((fail_if_success (with_reducible show AW _ _ _ _)); simp (maxSteps := 2000000) only [go_sem, reduceIte, reduceCtorEq, Nat.reduceAdd, Nat.reduceLT, Nat.reduceLeDiff, Nat.reduceEqDiff, Nat.reduceMul, Nat.reduceSub, Nat.reduceBEq, Try.f27, ty_24, fnok_35, zc_55, ty_55, of_55_1, ty_25, le_25, of_55_2, ty_3, bytI, rowsI])
    | ((fail_if_success (with_reducible show AW _ _ _ _)); simp (disch := omega) only [seaWrap, seaDiv, seaMod])
    | ((with_reducible refine hK _ ?_); clear hK K))
  all_goals (simp only [roomV, roomE, hv_, Bool.false_eq_true, if_false, false_and]; first | exact ⟨rfl, rfl⟩ | exact ⟨⟨rfl, rfl⟩, rfl⟩ | exact ⟨trivial, trivial⟩ | rfl)

set_option maxRecDepth 100000 in
set_option maxHeartbeats 4000000 in
theorem room_b2 (n : Nat) (m : Nat → Nat) (D : Nat → Nat → Int) (hs : Szd n m) (hD : BytD D) (hd : 1 < D 0 0) : CallsP Try.prog 27 [.agg [.lst 1 (n) (rowsI (m) (D))]] (.tup [.one (.g (.int .i64 (roomV n m D))), .one (.g (.int .i64 (roomE n m D)))]) := by
  have h3 := hs.h3
  have h64 := hs.h63
  have hm0 := hs.m 0 (by omega)
  have hm : ∀ i, i < n → m i ≤ 9223372036854775807 := fun i hi => by have := hs.m i hi; omega
  have hsz := hs.b
  have hd0 := hD 0 0
  have hd1 : (D 0 0 > 1) = True := eq_true hd
  have hv_ : vB n m D = false := vB_no2 hd
  refine CallsP_of Try.func27 rfl (by rw [Try.ntmps27]; simp) ?_
  simp only [Try.ntmps27, List.map_cons, List.map_nil, PT.tv, argEnv, Nat.zero_add, Nat.reduceAdd]
  repeat' (first
    | (with_reducible refine AW_seq_k fun K hK => ?_)
    | ((first | (with_reducible refine And.intro ?_ ?_) | (with_reducible refine Need.mk ?_)); focus (first | exact True.intro | (with_reducible assumption) | omega | (refine ⟨?_, ?_⟩ <;> omega) | (intro _; first | exact True.intro | (with_reducible assumption) | omega) | (intros; (repeat' (first | exact True.intro | omega | (with_reducible assumption) | (with_reducible refine And.intro ?_ ?_))); done) | (simp (disch := omega) only [Bool.and_eq_true, Bool.or_eq_true, decide_eq_true_eq, bne_iff_ne, ne_eq] at *; first | done | omega | (intros; omega)) | (simp; done) | (simp; omega) | (simp +contextual; done) | (intro h; rw [h]; rfl) | (intros; simp_all; done)))
    | (with_reducible refine AW_skip ?_)
    | (with_reducible refine AW_exit ?_)
    | (with_reducible refine AW_ret ?_)
    | (with_reducible refine retK_n ?_)
    | (with_reducible refine retK_n' ?_)
    | (with_reducible refine retH_n rfl rfl rfl ?_)
    | (with_reducible refine retH_n' rfl rfl rfl ?_)
    | (with_reducible refine retO_n ?_ ?_)
    | (with_reducible refine retO_n' ?_ ?_)
    | (with_reducible refine AW_condI ?_)
    | (with_reducible refine AW_block ?_)
    | ((with_reducible refine condN_t ?_ ?_) <;> (intro hc; (try simp only [Bool.and_eq_true, Bool.or_eq_true, Bool.not_eq_true', Bool.and_eq_false_iff, Bool.or_eq_false_iff, decide_eq_true_eq, decide_eq_false_iff_not, bne_iff_ne, beq_iff_eq, reduceCtorEq, bne_eq_false_iff_eq, beq_eq_false_iff_ne, Bool.not_eq_false', Int.not_le, Int.not_lt, Bool.not_not] at hc); (skip); (try (exfalso; first | contradiction | omega))))
    | (with_reducible refine AW_regionP 0 [0] ?_)
    | (with_reducible refine AW_regionP 1 [1] ?_)
    | (with_reducible refine AW_regionP 2 [4, 6] ?_)
    | (with_reducible refine AW_regionP 3 [] ?_)
    | (with_reducible refine AW_regionP 4 [4] ?_)
    | (with_reducible refine AW_regionP 5 [7] ?_)
    | (with_reducible refine AW_regionP 6 [] ?_)
    | (with_reducible refine AW_regionP 7 [7] ?_)
    | (refine callN_q (k := 35) fnok_35 (open_b2 n m D hs hD hd) ?_ ?_)
    | ((fail_if_success (with_reducible show AW _ _ _ _)); simp (maxSteps := 2000000) only [go_sem, reduceIte, reduceCtorEq, Nat.reduceAdd, Nat.reduceLT, Nat.reduceLeDiff, Nat.reduceEqDiff, Nat.reduceMul, Nat.reduceSub, Nat.reduceBEq, Try.f27, ty_24, fnok_35, zc_55, ty_55, of_55_1, ty_25, le_25, of_55_2, ty_3, bytI, rowsI])
    | ((fail_if_success (with_reducible show AW _ _ _ _)); simp (disch := omega) only [seaWrap, seaDiv, seaMod])
    | ((with_reducible refine hK _ ?_); clear hK K))
  all_goals (simp only [roomV, roomE, hv_, Bool.false_eq_true, if_false, false_and]; first | exact ⟨rfl, rfl⟩ | exact ⟨⟨rfl, rfl⟩, rfl⟩ | exact ⟨trivial, trivial⟩ | rfl)

set_option maxRecDepth 100000 in
set_option maxHeartbeats 4000000 in
theorem room_ok (n : Nat) (m : Nat → Nat) (D : Nat → Nat → Int) (hs : Szd n m) (hD : BytD D) (k : Nat) (hk1 : k ≤ 1) (hk : D 0 0 = (k : Int)) : CallsP Try.prog 27 [.agg [.lst 1 (n) (rowsI (m) (D))]] (.tup [.one (.g (.int .i64 (roomV n m D))), .one (.g (.int .i64 (roomE n m D)))]) := by
  have h3 := hs.h3
  have h64 := hs.h63
  have hl := hs.hlf
  have hm0 := hs.m 0 (by omega)
  have hm : ∀ i, i < n → m i ≤ 9223372036854775807 := fun i hi => by have := hs.m i hi; omega
  have hsz := hs.b
  have hd0 := hD 0 0
  have hd1 : ((k : Int) > 1) = False := eq_false (by omega)
  have hv_ := vB_ok hs hk1 hk
  have hh_ := hv_k (n := n) hk
  have hle := endP_le (halfF n D k) (hlf n * 64)
  have hlr := endR_le (halfF n D k) (hlf n * 64)
  refine CallsP_of Try.func27 rfl (by rw [Try.ntmps27]; simp) ?_
  simp only [Try.ntmps27, List.map_cons, List.map_nil, PT.tv, argEnv, Nat.zero_add, Nat.reduceAdd]
  repeat' (first
    | (with_reducible refine AW_seq_k fun K hK => ?_)
    | ((first | (with_reducible refine And.intro ?_ ?_) | (with_reducible refine Need.mk ?_)); focus (first | exact True.intro | (with_reducible assumption) | omega | (refine ⟨?_, ?_⟩ <;> omega) | (intro _; first | exact True.intro | (with_reducible assumption) | omega) | (intros; (repeat' (first | exact True.intro | omega | (with_reducible assumption) | (with_reducible refine And.intro ?_ ?_))); done) | (simp (disch := omega) only [Bool.and_eq_true, Bool.or_eq_true, decide_eq_true_eq, bne_iff_ne, ne_eq] at *; first | done | omega | (intros; omega)) | (simp; done) | (simp; omega) | (simp +contextual; done) | (intro h; rw [h]; rfl) | (intros; simp_all; done)))
    | (with_reducible refine AW_skip ?_)
    | (with_reducible refine AW_exit ?_)
    | (with_reducible refine AW_ret ?_)
    | (with_reducible refine retK_n ?_)
    | (with_reducible refine retK_n' ?_)
    | (with_reducible refine retH_n rfl rfl rfl ?_)
    | (with_reducible refine retH_n' rfl rfl rfl ?_)
    | (with_reducible refine retO_n ?_ ?_)
    | (with_reducible refine retO_n' ?_ ?_)
    | (with_reducible refine AW_condI ?_)
    | (with_reducible refine AW_block ?_)
    | ((with_reducible refine condN_t ?_ ?_) <;> (intro hc; (try simp only [Bool.and_eq_true, Bool.or_eq_true, Bool.not_eq_true', Bool.and_eq_false_iff, Bool.or_eq_false_iff, decide_eq_true_eq, decide_eq_false_iff_not, bne_iff_ne, beq_iff_eq, reduceCtorEq, bne_eq_false_iff_eq, beq_eq_false_iff_ne, Bool.not_eq_false', Int.not_le, Int.not_lt, Bool.not_not] at hc); (skip); (try (exfalso; first | contradiction | omega))))
    | (with_reducible refine AW_regionP 0 [0] ?_)
    | (with_reducible refine AW_regionP 1 [1] ?_)
    | (with_reducible refine AW_regionP 2 [4, 6] ?_)
    | (with_reducible refine AW_regionP 3 [] ?_)
    | (with_reducible refine AW_regionP 4 [4] ?_)
    | (with_reducible refine AW_regionP 5 [7] ?_)
    | (with_reducible refine AW_regionP 6 [] ?_)
    | (with_reducible refine AW_regionP 7 [7] ?_)
    | (refine callN_q (k := 35) fnok_35 (open_ok n m D hs hD k hk1 hk) ?_ ?_)
    | ((fail_if_success (with_reducible show AW _ _ _ _)); simp (maxSteps := 2000000) only [go_sem, reduceIte, reduceCtorEq, Nat.reduceAdd, Nat.reduceLT, Nat.reduceLeDiff, Nat.reduceEqDiff, Nat.reduceMul, Nat.reduceSub, Nat.reduceBEq, Try.f27, ty_24, fnok_35, zc_55, ty_55, of_55_1, ty_25, le_25, of_55_2, ty_3, bytI, rowsI, hm0, hk])
    | ((fail_if_success (with_reducible show AW _ _ _ _)); simp (disch := omega) only [seaWrap, seaDiv, seaMod])
    | ((with_reducible refine hK _ ?_); clear hK K))
  all_goals (simp only [roomV, roomE, hv_, hh_, hc, Bool.false_eq_true, if_false, if_true, true_and, false_and])
  all_goals (try rw [outN_ok hc])
  all_goals (first | exact ⟨rfl, rfl⟩ | exact ⟨⟨rfl, rfl⟩, rfl⟩ | exact ⟨⟨rfl, fun i o hi ho i' o' hi' ho' => trivial⟩, trivial⟩ | exact ⟨trivial, trivial⟩ | rfl | (have h1 : okP (halfF n D k) (hlf n * 64) = true := (by assumption); have h2 := endR_ok h1; first | (rw [if_neg (fun h => by omega), if_pos h1, if_neg (by omega)]; exact ⟨rfl, rfl⟩) | (rw [if_pos ⟨h1, by omega⟩, if_pos h1, if_pos (by omega)]; exact ⟨by omega, rfl⟩)))

theorem room_p (n : Nat) (m : Nat → Nat) (D : Nat → Nat → Int) (hn : n ≤ 9223372036854775807) (hm : ∀ i, i < n → m i ≤ 9223372036854775807) (hD : BytD D) : CallsP Try.prog 27 [.agg [.lst 1 (n) (rowsI (m) (D))]] (.tup [.one (.g (.int .i64 (roomV n m D))), .one (.g (.int .i64 (roomE n m D)))]) := by
  rcases disk_cases n m D hD with hs | ⟨hs, hd⟩ | ⟨k, hs, hk1, hk⟩
  · exact room_b1 n m D hn hm hs
  · exact room_b2 n m D hs hD hd
  · exact room_ok n m D hs hD k hk1 hk

set_option maxRecDepth 100000 in
set_option maxHeartbeats 4000000 in
theorem rroom_b1 (n : Nat) (m : Nat → Nat) (D : Nat → Nat → Int) (hn : n ≤ 9223372036854775807) (hm : ∀ i, i < n → m i ≤ 9223372036854775807) (hs : sizedB n m = false) : CallsP Try.prog 28 [.agg [.lst 1 (n) (rowsI (m) (D))]] (.tup [.one (.g (.int .i64 (roomV n m D))), .one (.g (.int .i64 (roomE n m D)))]) := by
  have hv_ : vB n m D = false := vB_no1 hs
  refine CallsP_of Try.func28 rfl (by rw [Try.ntmps28]; simp) ?_
  simp only [Try.ntmps28, List.map_cons, List.map_nil, PT.tv, argEnv, Nat.zero_add, Nat.reduceAdd]
  repeat' (first
    | (with_reducible refine AW_seq_k fun K hK => ?_)
    | ((first | (with_reducible refine And.intro ?_ ?_) | (with_reducible refine Need.mk ?_)); focus (first | exact True.intro | (with_reducible assumption) | omega | (refine ⟨?_, ?_⟩ <;> omega) | (intro _; first | exact True.intro | (with_reducible assumption) | omega) | (intros; (repeat' (first | exact True.intro | omega | (with_reducible assumption) | (with_reducible refine And.intro ?_ ?_))); done) | (simp (disch := omega) only [Bool.and_eq_true, Bool.or_eq_true, decide_eq_true_eq, bne_iff_ne, ne_eq] at *; first | done | omega | (intros; omega)) | (simp; done) | (simp; omega) | (simp +contextual; done) | (intro h; rw [h]; rfl) | (intros; simp_all; done)))
    | (with_reducible refine AW_skip ?_)
    | (with_reducible refine AW_exit ?_)
    | (with_reducible refine AW_ret ?_)
    | (with_reducible refine retK_n ?_)
    | (with_reducible refine retK_n' ?_)
    | (with_reducible refine retH_n rfl rfl rfl ?_)
    | (with_reducible refine retH_n' rfl rfl rfl ?_)
    | (with_reducible refine retO_n ?_ ?_)
    | (with_reducible refine retO_n' ?_ ?_)
    | (with_reducible refine AW_condI ?_)
    | (with_reducible refine AW_block ?_)
    | ((with_reducible refine condN_t ?_ ?_) <;> (intro hc; (try simp only [Bool.and_eq_true, Bool.or_eq_true, Bool.not_eq_true', Bool.and_eq_false_iff, Bool.or_eq_false_iff, decide_eq_true_eq, decide_eq_false_iff_not, bne_iff_ne, beq_iff_eq, reduceCtorEq, bne_eq_false_iff_eq, beq_eq_false_iff_ne, Bool.not_eq_false', Int.not_le, Int.not_lt, Bool.not_not] at hc); (skip); (try (exfalso; first | contradiction | omega))))
    | (with_reducible refine AW_regionP 0 [0] ?_)
    | (with_reducible refine AW_regionP 1 [1] ?_)
    | (with_reducible refine AW_regionP 2 [1, 4] ?_)
    | (with_reducible refine AW_regionP 3 [] ?_)
    | ((with_reducible refine AW_prune (c := Code.region 4 _ true) [1] ?_); (with_reducible refine AW_regionD ?_ ?_ ?_ ?_); (focus kernel_rfl); (focus kernel_rfl); (focus kernel_rfl))
    | (with_reducible refine AW_regionP 5 [5] ?_)
    | (with_reducible refine AW_regionP 6 [5, 7] ?_)
    | (with_reducible refine AW_regionP 7 [] ?_)
    | (with_reducible refine AW_regionP 8 [5, 7] ?_)
    | ((with_reducible refine And.intro ?_ ?_); focus ((with_reducible show chkR _ _ _ = true); kernel_rfl))
    | (refine callN_q (k := 14) fnok_14 (rvalid_b1 n m D hn hm hs) ?_ ?_)
    | ((fail_if_success (with_reducible show AW _ _ _ _)); simp (maxSteps := 2000000) only [go_sem, reduceIte, reduceCtorEq, Nat.reduceAdd, Nat.reduceLT, Nat.reduceLeDiff, Nat.reduceEqDiff, Nat.reduceMul, Nat.reduceSub, Nat.reduceBEq, Try.f28, ty_24, fnok_14, of_24_0, ty_22, sl_22, ar_22, ty_25, sl_25, ar_25, ty_5, in_3, fnok_38, fnok_37, le_25, bytI, rowsI])
    | ((fail_if_success (with_reducible show AW _ _ _ _)); simp (disch := omega) only [seaWrap, seaDiv, seaMod])
    | ((with_reducible refine hK _ ?_); clear hK K))
  all_goals (simp only [roomV, roomE, hv_, Bool.false_eq_true, if_false, false_and]; first | exact ⟨rfl, rfl⟩ | exact ⟨⟨rfl, rfl⟩, rfl⟩ | exact ⟨trivial, trivial⟩ | rfl)

set_option maxRecDepth 100000 in
set_option maxHeartbeats 4000000 in
theorem rroom_b2 (n : Nat) (m : Nat → Nat) (D : Nat → Nat → Int) (hs : Szd n m) (hD : BytD D) (hd : 1 < D 0 0) : CallsP Try.prog 28 [.agg [.lst 1 (n) (rowsI (m) (D))]] (.tup [.one (.g (.int .i64 (roomV n m D))), .one (.g (.int .i64 (roomE n m D)))]) := by
  have h3 := hs.h3
  have h64 := hs.h63
  have hm0 := hs.m 0 (by omega)
  have hm : ∀ i, i < n → m i ≤ 9223372036854775807 := fun i hi => by have := hs.m i hi; omega
  have hsz := hs.b
  have hd0 := hD 0 0
  have hd1 : (D 0 0 > 1) = True := eq_true hd
  have hv_ : vB n m D = false := vB_no2 hd
  refine CallsP_of Try.func28 rfl (by rw [Try.ntmps28]; simp) ?_
  simp only [Try.ntmps28, List.map_cons, List.map_nil, PT.tv, argEnv, Nat.zero_add, Nat.reduceAdd]
  repeat' (first
    | (with_reducible refine AW_seq_k fun K hK => ?_)
    | ((first | (with_reducible refine And.intro ?_ ?_) | (with_reducible refine Need.mk ?_)); focus (first | exact True.intro | (with_reducible assumption) | omega | (refine ⟨?_, ?_⟩ <;> omega) | (intro _; first | exact True.intro | (with_reducible assumption) | omega) | (intros; (repeat' (first | exact True.intro | omega | (with_reducible assumption) | (with_reducible refine And.intro ?_ ?_))); done) | (simp (disch := omega) only [Bool.and_eq_true, Bool.or_eq_true, decide_eq_true_eq, bne_iff_ne, ne_eq] at *; first | done | omega | (intros; omega)) | (simp; done) | (simp; omega) | (simp +contextual; done) | (intro h; rw [h]; rfl) | (intros; simp_all; done)))
    | (with_reducible refine AW_skip ?_)
    | (with_reducible refine AW_exit ?_)
    | (with_reducible refine AW_ret ?_)
    | (with_reducible refine retK_n ?_)
    | (with_reducible refine retK_n' ?_)
    | (with_reducible refine retH_n rfl rfl rfl ?_)
    | (with_reducible refine retH_n' rfl rfl rfl ?_)
    | (with_reducible refine retO_n ?_ ?_)
    | (with_reducible refine retO_n' ?_ ?_)
    | (with_reducible refine AW_condI ?_)
    | (with_reducible refine AW_block ?_)
    | ((with_reducible refine condN_t ?_ ?_) <;> (intro hc; (try simp only [Bool.and_eq_true, Bool.or_eq_true, Bool.not_eq_true', Bool.and_eq_false_iff, Bool.or_eq_false_iff, decide_eq_true_eq, decide_eq_false_iff_not, bne_iff_ne, beq_iff_eq, reduceCtorEq, bne_eq_false_iff_eq, beq_eq_false_iff_ne, Bool.not_eq_false', Int.not_le, Int.not_lt, Bool.not_not] at hc); (skip); (try (exfalso; first | contradiction | omega))))
    | (with_reducible refine AW_regionP 0 [0] ?_)
    | (with_reducible refine AW_regionP 1 [1] ?_)
    | (with_reducible refine AW_regionP 2 [1, 4] ?_)
    | (with_reducible refine AW_regionP 3 [] ?_)
    | ((with_reducible refine AW_prune (c := Code.region 4 _ true) [1] ?_); (with_reducible refine AW_regionD ?_ ?_ ?_ ?_); (focus kernel_rfl); (focus kernel_rfl); (focus kernel_rfl))
    | (with_reducible refine AW_regionP 5 [5] ?_)
    | (with_reducible refine AW_regionP 6 [5, 7] ?_)
    | (with_reducible refine AW_regionP 7 [] ?_)
    | (with_reducible refine AW_regionP 8 [5, 7] ?_)
    | ((with_reducible refine And.intro ?_ ?_); focus ((with_reducible show chkR _ _ _ = true); kernel_rfl))
    | (refine callN_q (k := 14) fnok_14 (rvalid_b2 n m D hs hD hd) ?_ ?_)
    | ((fail_if_success (with_reducible show AW _ _ _ _)); simp (maxSteps := 2000000) only [go_sem, reduceIte, reduceCtorEq, Nat.reduceAdd, Nat.reduceLT, Nat.reduceLeDiff, Nat.reduceEqDiff, Nat.reduceMul, Nat.reduceSub, Nat.reduceBEq, Try.f28, ty_24, fnok_14, of_24_0, ty_22, sl_22, ar_22, ty_25, sl_25, ar_25, ty_5, in_3, fnok_38, fnok_37, le_25, bytI, rowsI])
    | ((fail_if_success (with_reducible show AW _ _ _ _)); simp (disch := omega) only [seaWrap, seaDiv, seaMod])
    | ((with_reducible refine hK _ ?_); clear hK K))
  all_goals (simp only [roomV, roomE, hv_, Bool.false_eq_true, if_false, false_and]; first | exact ⟨rfl, rfl⟩ | exact ⟨⟨rfl, rfl⟩, rfl⟩ | exact ⟨trivial, trivial⟩ | rfl)

set_option maxRecDepth 100000 in
set_option maxHeartbeats 4000000 in
theorem rroom_ok (n : Nat) (m : Nat → Nat) (D : Nat → Nat → Int) (hs : Szd n m) (hD : BytD D) (k : Nat) (hk1 : k ≤ 1) (hk : D 0 0 = (k : Int)) : CallsP Try.prog 28 [.agg [.lst 1 (n) (rowsI (m) (D))]] (.tup [.one (.g (.int .i64 (roomV n m D))), .one (.g (.int .i64 (roomE n m D)))]) := by
  have h3 := hs.h3
  have h64 := hs.h63
  have hl := hs.hlf
  have hm0 := hs.m 0 (by omega)
  have hm : ∀ i, i < n → m i ≤ 9223372036854775807 := fun i hi => by have := hs.m i hi; omega
  have hsz := hs.b
  have hd0 := hD 0 0
  have hd1 : ((k : Int) > 1) = False := eq_false (by omega)
  have hv_ := vB_ok hs hk1 hk
  have hh_ := hv_k (n := n) hk
  have hle := endP_le (halfF n D k) (hlf n * 64)
  have hlr := endR_le (halfF n D k) (hlf n * 64)
  refine CallsP_of Try.func28 rfl (by rw [Try.ntmps28]; simp) ?_
  simp only [Try.ntmps28, List.map_cons, List.map_nil, PT.tv, argEnv, Nat.zero_add, Nat.reduceAdd]
  repeat' (first
    | (with_reducible refine AW_seq_k fun K hK => ?_)
    | ((first | (with_reducible refine And.intro ?_ ?_) | (with_reducible refine Need.mk ?_)); focus (first | exact True.intro | (with_reducible assumption) | omega | (refine ⟨?_, ?_⟩ <;> omega) | (intro _; first | exact True.intro | (with_reducible assumption) | omega) | (intros; (repeat' (first | exact True.intro | omega | (with_reducible assumption) | (with_reducible refine And.intro ?_ ?_))); done) | (simp (disch := omega) only [Bool.and_eq_true, Bool.or_eq_true, decide_eq_true_eq, bne_iff_ne, ne_eq] at *; first | done | omega | (intros; omega)) | (simp; done) | (simp; omega) | (simp +contextual; done) | (intro h; rw [h]; rfl) | (intros; simp_all; done)))
    | (with_reducible refine AW_skip ?_)
    | (with_reducible refine AW_exit ?_)
    | (with_reducible refine AW_ret ?_)
    | (with_reducible refine retK_n ?_)
    | (with_reducible refine retK_n' ?_)
    | (with_reducible refine retH_n rfl rfl rfl ?_)
    | (with_reducible refine retH_n' rfl rfl rfl ?_)
    | (with_reducible refine retO_n ?_ ?_)
    | (with_reducible refine retO_n' ?_ ?_)
    | (with_reducible refine AW_condI ?_)
    | (with_reducible refine AW_block ?_)
    | ((with_reducible refine condN_t ?_ ?_) <;> (intro hc; (try simp only [Bool.and_eq_true, Bool.or_eq_true, Bool.not_eq_true', Bool.and_eq_false_iff, Bool.or_eq_false_iff, decide_eq_true_eq, decide_eq_false_iff_not, bne_iff_ne, beq_iff_eq, reduceCtorEq, bne_eq_false_iff_eq, beq_eq_false_iff_ne, Bool.not_eq_false', Int.not_le, Int.not_lt, Bool.not_not] at hc); (skip); (try (exfalso; first | contradiction | omega))))
    | (with_reducible refine AW_regionP 0 [0] ?_)
    | (with_reducible refine AW_regionP 1 [1] ?_)
    | (with_reducible refine AW_regionP 2 [1, 4] ?_)
    | (with_reducible refine AW_regionP 3 [] ?_)
    | ((with_reducible refine AW_prune (c := Code.region 4 _ true) [1] ?_); (with_reducible refine AW_regionD ?_ ?_ ?_ ?_); (focus kernel_rfl); (focus kernel_rfl); (focus kernel_rfl))
    | (with_reducible refine AW_regionP 5 [5] ?_)
    | (with_reducible refine AW_regionP 6 [5, 7] ?_)
    | (with_reducible refine AW_regionP 7 [] ?_)
    | (with_reducible refine AW_regionP 8 [5, 7] ?_)
    | ((with_reducible refine And.intro ?_ ?_); focus ((with_reducible show chkR _ _ _ = true); kernel_rfl))
    | (refine callN_q (k := 14) fnok_14 (rvalid_ok n m D hs hD k hk1 hk) ?_ ?_)
    | (refine callDN_q (k := 38) fnok_38 (half_p n m D hs k hk1) ?_ ?_)
    | (refine callN_q (k := 37) fnok_37 (rparse_p (hlf n * 64) (halfF n D k) (by omega) (hD.half n k)) ?_ ?_)
    | ((fail_if_success (with_reducible show AW _ _ _ _)); simp (maxSteps := 2000000) only [go_sem, reduceIte, reduceCtorEq, Nat.reduceAdd, Nat.reduceLT, Nat.reduceLeDiff, Nat.reduceEqDiff, Nat.reduceMul, Nat.reduceSub, Nat.reduceBEq, Try.f28, ty_24, fnok_14, of_24_0, ty_22, sl_22, ar_22, ty_25, sl_25, ar_25, ty_5, in_3, fnok_38, fnok_37, le_25, bytI, rowsI, hm0, hk])
    | ((fail_if_success (with_reducible show AW _ _ _ _)); simp (disch := omega) only [seaWrap, seaDiv, seaMod])
    | ((with_reducible refine hK _ ?_); clear hK K))
  all_goals (simp only [roomV, roomE, hv_, hh_, hc, Bool.false_eq_true, if_false, if_true, true_and, false_and])
  all_goals (try rw [outN_ok hc])
  all_goals (first | exact ⟨rfl, rfl⟩ | exact ⟨⟨rfl, rfl⟩, rfl⟩ | exact ⟨⟨rfl, fun i o hi ho i' o' hi' ho' => trivial⟩, trivial⟩ | exact ⟨trivial, trivial⟩ | rfl | (have h1 : okP (halfF n D k) (hlf n * 64) = true := (by assumption); have h2 := endR_ok h1; first | (rw [if_neg (fun h => by omega), if_pos h1, if_neg (by omega)]; exact ⟨rfl, rfl⟩) | (rw [if_pos ⟨h1, by omega⟩, if_pos h1, if_pos (by omega)]; exact ⟨by omega, rfl⟩)))

theorem rroom_p (n : Nat) (m : Nat → Nat) (D : Nat → Nat → Int) (hn : n ≤ 9223372036854775807) (hm : ∀ i, i < n → m i ≤ 9223372036854775807) (hD : BytD D) : CallsP Try.prog 28 [.agg [.lst 1 (n) (rowsI (m) (D))]] (.tup [.one (.g (.int .i64 (roomV n m D))), .one (.g (.int .i64 (roomE n m D)))]) := by
  rcases disk_cases n m D hD with hs | ⟨hs, hd⟩ | ⟨k, hs, hk1, hk⟩
  · exact rroom_b1 n m D hn hm hs
  · exact rroom_b2 n m D hs hD hd
  · exact rroom_ok n m D hs hD k hk1 hk

end Go.Proofs.Ytifoncmlelinjaa
