/- X: walks on abstract states. -/
import Derived.Test.YtifoncmlelinjaaW
set_option linter.unusedVariables false
set_option linter.unusedSimpArgs false
namespace Go.Proofs.Ytifoncmlelinjaa
open Go.RowKit Go.Sea
attribute [local go_sem] callK_N gf gk gdrop lkL setL lsF ltAll rdyL bodyF roundQ roundS loopQ loopS jumpOf inLs yV yA bAV zipPut purgeG_nil purgeG_cons List.tail_cons Option.isNone_none Option.isNone_some callGK_f callDK_f callDGK_f retN retHN blockA arun_nil arun_plain arun_guard plainF guardF guardB arunD_nil arunD_plain arunD_guard plainDF guardDF guardDB AS.ent Eff.noApp Eff.tgt ftF AV.refs TV.refs CV.refs LV.refs Op.operands Call.operands List.append_toArray List.push_toArray List.flatMap_cons List.flatMap_nil List.toList_toArray Option.toArray nidF nidA List.reverse_cons List.reverse_nil opF AS.ev constA lk AS.get AV.tv AV.nd AS.eff AS.put argEnv PT.tv PV.av AV.mbOf hset hget TV.cells dstOk thenA gB isB toB TV.bool? TV.int? intF loadF storeF fieldF indexF lenF sliceF optI appF minmaxF fillF partsF lvsF TV.lv LV.tv purgeE purgeC purgeH AV.purge CV.purge AV.has TV.has CV.has LV.has calleeF argsF tvsF toPT toIV toIVs toPTs toPV iA bA List.map_cons List.map_nil List.length_nil List.length_cons List.getElem?_cons_zero List.getElem?_cons_succ List.getElem?_nil Option.getD_some Option.getD_none Option.bind_some Option.bind_none List.take_succ_cons List.take_zero List.drop_succ_cons List.drop_zero List.take_nil List.drop_nil List.cons_append List.nil_append List.append_nil List.getD_cons_zero List.getD_cons_succ Option.map_some Option.map_none Option.isSome_some Option.isSome_none List.size_toArray List.any_cons List.any_nil List.mem_cons if_true if_false ite_true ite_false cond_true cond_false Nat.zero_add Nat.add_zero Nat.sub_zero Nat.le_refl Nat.zero_mul Nat.mul_zero Nat.one_mul Nat.mul_one Int.toNat_zero Int.toNat_natCast Bool.or_false Bool.false_or Bool.or_true Bool.true_or Bool.and_true Bool.true_and Bool.and_false Bool.false_and beq_self_eq_true beq_true beq_false Bool.not_true Bool.not_false and_true true_and and_false false_and and_self imp_self Bool.cond_false_right Bool.cond_true_left implies_true forall_const true_implies false_implies Option.some.injEq Prod.mk.injEq ne_eq not_false_eq_true not_true_eq_false eq_self Nat.lt_irrefl Nat.not_lt_zero op2F ncF slice3F offF slArrF copyF clearF toArrF callDK_t calleeT eqN barOp boF seaMin seaMax seaNat1 seaNat2 Value.bool.injEq Value.int.injEq srcF TV.dp IV.eqv PT.eqv PV.eqv All2 keepE hupd callZ_N AS.frz AS.frzW frzs frzsOk frzOk frzE frzA frzT frzC frzG frzH hdel cmpS eqF eqC gvs eqVs eqV decide_true resF tupA inlQ okL okGL okG nextL nextF barOpN AS.mv mvE mvG_nil mvG_cons mvH mvO AV.mv TV.mv CV.mv LV.mv famL_mv famL_purge famL_snoc famL_zero wkH wkC wkV nilA nilC AV.ok TV.ok CV.ok LV.ok okB forall_eq_or_imp forall_eq List.not_mem_nil List.mem_singleton true_or or_true or_false false_or or_self exists_prop AV.t.injEq TV.one.injEq CV.iv.injEq IV.g.injEq TV.agg.injEq List.cons.injEq repC_0 repC_1 repC_2 repC_3 rowV_len rowV_pur rowV_has rowV_frz frzC isIv_iv civ_iv rowV_all List.map_append retON AV.to TV.to CV.to
theorem fnok_33 : fnOk Try.prog 33 = true := by kernel_rfl

theorem few_1 {n : Nat} {m : Nat → Nat} {D : Nat → Nat → Int} {r : Nat} {R : Nat → Int} (hn : n ≤ 9223372036854775807) (hm : ∀ i, i < n → m i ≤ 9223372036854775807) (hr : r ≤ 9223372036854775807) {f : Nat → Nat → IV} (hf : ∀ i o, i < 1 → o < 1 → (f i o).eqv (.lst 1 r (bytI R))) : CallsP Try.prog 12 [.agg [.lst 1 n (rowsI m D)], .one (.lst 1 1 f)] (.t (.one (.g (.bool (fewB n m 1 fun _ => r))))) :=
  (few_p n m D 1 (fun _ => r) (fun _ => R) hn (by omega) hm (fun _ _ => hr)).eqv ⟨PT.eqv_refl _, ⟨rfl, rfl, hf⟩, trivial⟩ (PV.eqv_refl _)
theorem recs_t {n n' : Nat} {m m' : Nat → Nat} {D D' : Nat → Nat → Int} (hn : n ≤ 9223372036854775807) (hn' : n' ≤ 9223372036854775807) (hm : ∀ i, i < n → m i ≤ 9223372036854775807) (hm' : ∀ i, i < n' → m' i ≤ 9223372036854775807) {b : Bool} (h : recsB n m D n' m' D' = b) : CallsP Try.prog 26 [.one (.lst 1 n (rowsI m D)), .one (.lst 1 n' (rowsI m' D'))] (.t (.one (.g (.bool b)))) := by
  have e := recs_p n m D n' m' D' hn hn' hm hm'
  rw [h] at e
  exact e
theorem room_has {n : Nat} {m : Nat → Nat} {D : Nat → Nat → Int} {q : Nat} {M : Nat → Nat} {F : Nat → Nat → Int} (h : Has n m D q M F) : (encP M q + 3 ≤ hlf n * 64 → roomE n m D = 0 ∧ roomV n m D = ((hlf n * 64 - encP M q - 3 : Nat) : Int)) ∧ (¬ encP M q + 3 ≤ hlf n * 64 → roomE n m D = 17) := by
  unfold roomE roomV
  rw [h.v, h.e]
  refine ⟨fun hl => ?_, fun hl => ?_⟩
  · rw [if_pos rfl, if_pos hl, if_pos ⟨rfl, hl⟩]; exact ⟨rfl, rfl⟩
  · rw [if_pos rfl, if_neg hl]
theorem rdE_has {n : Nat} {m : Nat → Nat} {D : Nat → Nat → Int} (h : vB n m D = true) : rdE n m D = 0 := by unfold rdE; rw [h]; rfl
theorem cut_val {n : Nat} {m : Nat → Nat} {D : Nat → Nat → Int} {r : Nat} {af : Int} (hv_ : vB n m D = true) (hr : r ≤ 65535) (h0 : 0 ≤ af) : (fitB n D r = true → cutE n m D r af = 0 ∧ cutN n m D r af = n) ∧ (fitB n D r = false → cutE n m D r af = 17) := by
  unfold cutN cutE cutOk
  rw [hv_, decide_eq_true ⟨hr, h0⟩]
  refine ⟨fun h => ?_, fun h => ?_⟩ <;> rw [h] <;> simp
theorem lim_lt {n : Nat} {m : Nat → Nat} {D : Nat → Nat → Int} {r : Nat} (h : n ≤ 63) : lim n D r ≤ 2112 := by
  unfold lim secsN lastN hlf
  omega

set_option maxRecDepth 100000 in
set_option maxHeartbeats 4000000 in
theorem law4_b (n : Nat) (m : Nat → Nat) (D : Nat → Nat → Int) (hn : n ≤ 9223372036854775807) (hm : ∀ i, i < n → m i ≤ 9223372036854775807) (hD : BytD D) (r : Nat) (R : Nat → Int) (hr : r ≤ 9223372036854775807) (hR : Byt R) (hb : (fewB n m 1 fun _ => r) = false ∨ vB n m D = false) : CallsP Try.prog 4 [.agg [.lst 1 (n) (rowsI (m) (D))], .one (.lst 1 (r) (bytI (R)))] (.t (.one (.g (.bool (true))))) := by
  refine CallsP_of Try.func4 rfl (by rw [Try.ntmps4]; simp) ?_
  simp only [Try.ntmps4, List.map_cons, List.map_nil, PT.tv, argEnv, Nat.zero_add, Nat.reduceAdd]
  repeat' (first
    | ((refine callN_q (k := 12) fnok_12 (few_1 (R := R) hn hm hr ?_) ?_ ?_); (focus (intro i o hi ho; first | exact IV.eqv_refl _ | (obtain rfl : o = 0 := (by omega); rcases i with _ | _ | i <;> first | omega | exact IV.eqv_refl _ | (refine ⟨rfl, rfl, fun i o hi ho => ?_⟩; obtain rfl : o = 0 := (by omega); first | exact IV.eqv_refl _ | (rcases i with _ | _ | _ | _ | _ | _ | _ | _ | _ | i <;> first | omega | exact IV.eqv_refl _))))))
    | (with_reducible refine AW_seq_k fun K hK => ?_)
    | ((first | (with_reducible refine And.intro ?_ ?_) | (with_reducible refine Need.mk ?_)); focus (first | exact True.intro | (with_reducible assumption) | omega | (refine ⟨?_, ?_⟩ <;> omega) | (intro _; first | exact True.intro | (with_reducible assumption) | omega) | (intros; (repeat' (first | exact True.intro | omega | (with_reducible assumption) | (with_reducible refine And.intro ?_ ?_))); done) | (simp (disch := omega) only [Bool.and_eq_true, Bool.or_eq_true, decide_eq_true_eq, bne_iff_ne, ne_eq] at *; first | done | omega | (intros; omega)) | (simp; done) | (simp; omega) | (simp +contextual; done) | (intro h; rw [h]; rfl) | (intros; simp_all; done)))
    | (with_reducible refine AW_skip ?_)
    | (with_reducible refine AW_exit ?_)
    | (with_reducible refine AW_ret ?_)
    | (with_reducible refine retK_n ?_)
    | (with_reducible refine retK_n' ?_)
    | (with_reducible refine retH_n rfl rfl rfl ?_)
    | (with_reducible refine retH_n' rfl rfl rfl ?_)
    | (with_reducible refine retO_n ?_ ?_)
    | (with_reducible refine retO_n' ?_ ?_)
    | (with_reducible refine AW_condI ?_)
    | (with_reducible refine AW_block ?_)
    | ((with_reducible refine condN_t ?_ ?_) <;> (intro hc; (try simp only [Bool.and_eq_true, Bool.or_eq_true, Bool.not_eq_true', Bool.and_eq_false_iff, Bool.or_eq_false_iff, decide_eq_true_eq, decide_eq_false_iff_not, bne_iff_ne, beq_iff_eq, reduceCtorEq, bne_eq_false_iff_eq, beq_eq_false_iff_ne, Bool.not_eq_false', Int.not_le, Int.not_lt, Bool.not_not] at hc); ((try (exfalso; rcases hb with hb | hb; (have h9 := hc.1; rw [hb] at h9; cases h9); (have h9 := hc.2; rw [hb] at h9; cases h9)))); (try (exfalso; first | contradiction | omega))))
    | (with_reducible refine AW_regionP 0 [0, 1] ?_)
    | (with_reducible refine AW_regionP 1 [1, 2] ?_)
    | (with_reducible refine AW_regionP 2 [1, 2, 5] ?_)
    | (with_reducible refine AW_regionP 3 [5] ?_)
    | (with_reducible refine AW_regionP 4 [1, 2, 5] ?_)
    | (with_reducible refine AW_regionP 5 [1, 2, 5, 6, 7] ?_)
    | (with_reducible refine AW_regionP 6 [1, 2, 5, 6, 7, 8, 9] ?_)
    | (with_reducible refine AW_regionP 7 [1, 5, 6, 7, 8, 9, 10, 11] ?_)
    | (with_reducible refine AW_regionP 8 [1, 5, 6, 8, 9, 10, 11] ?_)
    | (with_reducible refine AW_regionP 9 [1, 5, 8, 9, 11] ?_)
    | (with_reducible refine AW_regionP 10 [1, 5, 6, 8, 9, 10] ?_)
    | (with_reducible refine AW_regionP 11 [1, 5, 6, 8, 9, 10, 12, 13] ?_)
    | (with_reducible refine AW_regionP 12 [1, 5, 6, 8, 9, 10, 12, 13, 14, 15] ?_)
    | (with_reducible refine AW_regionP 13 [1, 5, 8, 14, 15] ?_)
    | (with_reducible refine AW_regionP 14 [5, 15] ?_)
    | (with_reducible refine AW_regionP 15 [1, 5, 8, 14, 15] ?_)
    | (refine callN_q (k := 11) fnok_11 (head_p) ?_ ?_)
    | (refine callGN_q (k := 13) fnok_13 (fun hg => valid_p n m D hn hm hD) ?_ ?_)
    | (refine callN_q (k := 24) fnok_24 (read_p n m D hn hm hD) ?_ ?_)
    | (refine callN_q (k := 24) fnok_24 (read_p n c64 D' hn (c64_le n) hD') ?_ ?_)
    | (refine callN_q (k := 27) fnok_27 (room_p n m D hn hm hD) ?_ ?_)
    | (refine callN_q (k := 27) fnok_27 (room_p n c64 D' hn (c64_le n) hD') ?_ ?_)
    | (refine callN_q (k := 18) fnok_18 (append_p n m D hn hm hD r R hr) ?_ ?_)
    | ((fail_if_success (with_reducible show AW _ _ _ _)); simp (maxSteps := 2000000) only [go_sem, reduceIte, reduceCtorEq, Nat.reduceAdd, Nat.reduceLT, Nat.reduceLeDiff, Nat.reduceEqDiff, Nat.reduceMul, Nat.reduceSub, Nat.reduceBEq, Try.f4, fnok_11, ty_24, sl_22, zc_25, fnok_12, fnok_13, fnok_24, fnok_27, fnok_18, zc_24, le_25, fnok_33, fnok_26, bytI, rowsI])
    | ((fail_if_success (with_reducible show AW _ _ _ _)); simp (disch := omega) only [seaWrap, seaDiv, seaMod])
    | ((with_reducible refine hK _ ?_); clear hK K))

set_option maxRecDepth 100000 in
set_option maxHeartbeats 4000000 in
theorem law4_f0 (n : Nat) (m : Nat → Nat) (D : Nat → Nat → Int) (hn : n ≤ 9223372036854775807) (hm : ∀ i, i < n → m i ≤ 9223372036854775807) (hD : BytD D) (r : Nat) (R : Nat → Int) (hr : r ≤ 9223372036854775807) (hR : Byt R) (hf : (fewB n m 1 fun _ => r) = true) (hv_ : vB n m D = true) (h1 : rdE n m D = 0) (h2 : roomE n m D = 17) (h3 : cutE n m D r 1048576 = 17) : CallsP Try.prog 4 [.agg [.lst 1 (n) (rowsI (m) (D))], .one (.lst 1 (r) (bytI (R)))] (.t (.one (.g (.bool (true))))) := by
  refine CallsP_of Try.func4 rfl (by rw [Try.ntmps4]; simp) ?_
  simp only [Try.ntmps4, List.map_cons, List.map_nil, PT.tv, argEnv, Nat.zero_add, Nat.reduceAdd]
  repeat' (first
    | ((refine callN_q (k := 12) fnok_12 (few_1 (R := R) hn hm hr ?_) ?_ ?_); (focus (intro i o hi ho; first | exact IV.eqv_refl _ | (obtain rfl : o = 0 := (by omega); rcases i with _ | _ | i <;> first | omega | exact IV.eqv_refl _ | (refine ⟨rfl, rfl, fun i o hi ho => ?_⟩; obtain rfl : o = 0 := (by omega); first | exact IV.eqv_refl _ | (rcases i with _ | _ | _ | _ | _ | _ | _ | _ | _ | i <;> first | omega | exact IV.eqv_refl _))))))
    | (with_reducible refine AW_seq_k fun K hK => ?_)
    | ((first | (with_reducible refine And.intro ?_ ?_) | (with_reducible refine Need.mk ?_)); focus (first | exact True.intro | (with_reducible assumption) | omega | (refine ⟨?_, ?_⟩ <;> omega) | (intro _; first | exact True.intro | (with_reducible assumption) | omega) | (intros; (repeat' (first | exact True.intro | omega | (with_reducible assumption) | (with_reducible refine And.intro ?_ ?_))); done) | (simp (disch := omega) only [Bool.and_eq_true, Bool.or_eq_true, decide_eq_true_eq, bne_iff_ne, ne_eq] at *; first | done | omega | (intros; omega)) | (simp; done) | (simp; omega) | (simp +contextual; done) | (intro h; rw [h]; rfl) | (intros; simp_all; done)))
    | (with_reducible refine AW_skip ?_)
    | (with_reducible refine AW_exit ?_)
    | (with_reducible refine AW_ret ?_)
    | (with_reducible refine retK_n ?_)
    | (with_reducible refine retK_n' ?_)
    | (with_reducible refine retH_n rfl rfl rfl ?_)
    | (with_reducible refine retH_n' rfl rfl rfl ?_)
    | (with_reducible refine retO_n ?_ ?_)
    | (with_reducible refine retO_n' ?_ ?_)
    | (with_reducible refine AW_condI ?_)
    | (with_reducible refine AW_block ?_)
    | ((with_reducible refine condN_t ?_ ?_) <;> (intro hc; (try simp only [Bool.and_eq_true, Bool.or_eq_true, Bool.not_eq_true', Bool.and_eq_false_iff, Bool.or_eq_false_iff, decide_eq_true_eq, decide_eq_false_iff_not, bne_iff_ne, beq_iff_eq, reduceCtorEq, bne_eq_false_iff_eq, beq_eq_false_iff_ne, Bool.not_eq_false', Int.not_le, Int.not_lt, Bool.not_not] at hc); (skip); (try (exfalso; first | contradiction | omega))))
    | (with_reducible refine AW_regionP 0 [0, 1] ?_)
    | (with_reducible refine AW_regionP 1 [1, 2] ?_)
    | (with_reducible refine AW_regionP 2 [1, 2, 5] ?_)
    | (with_reducible refine AW_regionP 3 [5] ?_)
    | (with_reducible refine AW_regionP 4 [1, 2, 5] ?_)
    | (with_reducible refine AW_regionP 5 [1, 2, 5, 6, 7] ?_)
    | (with_reducible refine AW_regionP 6 [1, 2, 5, 6, 7, 8, 9] ?_)
    | (with_reducible refine AW_regionP 7 [1, 5, 6, 7, 8, 9, 10, 11] ?_)
    | (with_reducible refine AW_regionP 8 [1, 5, 6, 8, 9, 10, 11] ?_)
    | (with_reducible refine AW_regionP 9 [1, 5, 8, 9, 11] ?_)
    | (with_reducible refine AW_regionP 10 [1, 5, 6, 8, 9, 10] ?_)
    | (with_reducible refine AW_regionP 11 [1, 5, 6, 8, 9, 10, 12, 13] ?_)
    | (with_reducible refine AW_regionP 12 [1, 5, 6, 8, 9, 10, 12, 13, 14, 15] ?_)
    | (with_reducible refine AW_regionP 13 [1, 5, 8, 14, 15] ?_)
    | (with_reducible refine AW_regionP 14 [5, 15] ?_)
    | (with_reducible refine AW_regionP 15 [1, 5, 8, 14, 15] ?_)
    | (refine callN_q (k := 11) fnok_11 (head_p) ?_ ?_)
    | (refine callGN_q (k := 13) fnok_13 (fun hg => valid_p n m D hn hm hD) ?_ ?_)
    | (refine callN_q (k := 24) fnok_24 (read_p n m D hn hm hD) ?_ ?_)
    | (refine callN_q (k := 24) fnok_24 (read_p n c64 D' hn (c64_le n) hD') ?_ ?_)
    | (refine callN_q (k := 27) fnok_27 (room_p n m D hn hm hD) ?_ ?_)
    | (refine callN_q (k := 27) fnok_27 (room_p n c64 D' hn (c64_le n) hD') ?_ ?_)
    | (refine callN_q (k := 18) fnok_18 (append_p n m D hn hm hD r R hr) ?_ ?_)
    | ((fail_if_success (with_reducible show AW _ _ _ _)); simp (maxSteps := 2000000) only [go_sem, reduceIte, reduceCtorEq, Nat.reduceAdd, Nat.reduceLT, Nat.reduceLeDiff, Nat.reduceEqDiff, Nat.reduceMul, Nat.reduceSub, Nat.reduceBEq, Try.f4, fnok_11, ty_24, sl_22, zc_25, fnok_12, fnok_13, fnok_24, fnok_27, fnok_18, zc_24, le_25, fnok_33, fnok_26, bytI, rowsI, hf, hv_, h1, h2, h3])
    | ((fail_if_success (with_reducible show AW _ _ _ _)); simp (disch := omega) only [seaWrap, seaDiv, seaMod])
    | ((with_reducible refine hK _ ?_); clear hK K))
  all_goals rfl

set_option maxRecDepth 100000 in
set_option maxHeartbeats 4000000 in
theorem law4_f1 (n : Nat) (m : Nat → Nat) (D : Nat → Nat → Int) (hn : n ≤ 9223372036854775807) (hm : ∀ i, i < n → m i ≤ 9223372036854775807) (hD : BytD D) (r : Nat) (R : Nat → Int) (hr : r ≤ 9223372036854775807) (hR : Byt R) (hf : (fewB n m 1 fun _ => r) = true) (hv_ : vB n m D = true) (h1 : rdE n m D = 0) (v : Nat) (h2 : roomE n m D = 0) (h3 : cutE n m D r 1048576 = 17) (h4 : roomV n m D = (v : Int)) (h5 : ((r : Int) > (v : Int)) = True) : CallsP Try.prog 4 [.agg [.lst 1 (n) (rowsI (m) (D))], .one (.lst 1 (r) (bytI (R)))] (.t (.one (.g (.bool (true))))) := by
  refine CallsP_of Try.func4 rfl (by rw [Try.ntmps4]; simp) ?_
  simp only [Try.ntmps4, List.map_cons, List.map_nil, PT.tv, argEnv, Nat.zero_add, Nat.reduceAdd]
  repeat' (first
    | ((refine callN_q (k := 12) fnok_12 (few_1 (R := R) hn hm hr ?_) ?_ ?_); (focus (intro i o hi ho; first | exact IV.eqv_refl _ | (obtain rfl : o = 0 := (by omega); rcases i with _ | _ | i <;> first | omega | exact IV.eqv_refl _ | (refine ⟨rfl, rfl, fun i o hi ho => ?_⟩; obtain rfl : o = 0 := (by omega); first | exact IV.eqv_refl _ | (rcases i with _ | _ | _ | _ | _ | _ | _ | _ | _ | i <;> first | omega | exact IV.eqv_refl _))))))
    | (with_reducible refine AW_seq_k fun K hK => ?_)
    | ((first | (with_reducible refine And.intro ?_ ?_) | (with_reducible refine Need.mk ?_)); focus (first | exact True.intro | (with_reducible assumption) | omega | (refine ⟨?_, ?_⟩ <;> omega) | (intro _; first | exact True.intro | (with_reducible assumption) | omega) | (intros; (repeat' (first | exact True.intro | omega | (with_reducible assumption) | (with_reducible refine And.intro ?_ ?_))); done) | (simp (disch := omega) only [Bool.and_eq_true, Bool.or_eq_true, decide_eq_true_eq, bne_iff_ne, ne_eq] at *; first | done | omega | (intros; omega)) | (simp; done) | (simp; omega) | (simp +contextual; done) | (intro h; rw [h]; rfl) | (intros; simp_all; done)))
    | (with_reducible refine AW_skip ?_)
    | (with_reducible refine AW_exit ?_)
    | (with_reducible refine AW_ret ?_)
    | (with_reducible refine retK_n ?_)
    | (with_reducible refine retK_n' ?_)
    | (with_reducible refine retH_n rfl rfl rfl ?_)
    | (with_reducible refine retH_n' rfl rfl rfl ?_)
    | (with_reducible refine retO_n ?_ ?_)
    | (with_reducible refine retO_n' ?_ ?_)
    | (with_reducible refine AW_condI ?_)
    | (with_reducible refine AW_block ?_)
    | ((with_reducible refine condN_t ?_ ?_) <;> (intro hc; (try simp only [Bool.and_eq_true, Bool.or_eq_true, Bool.not_eq_true', Bool.and_eq_false_iff, Bool.or_eq_false_iff, decide_eq_true_eq, decide_eq_false_iff_not, bne_iff_ne, beq_iff_eq, reduceCtorEq, bne_eq_false_iff_eq, beq_eq_false_iff_ne, Bool.not_eq_false', Int.not_le, Int.not_lt, Bool.not_not] at hc); (skip); (try (exfalso; first | contradiction | omega))))
    | (with_reducible refine AW_regionP 0 [0, 1] ?_)
    | (with_reducible refine AW_regionP 1 [1, 2] ?_)
    | (with_reducible refine AW_regionP 2 [1, 2, 5] ?_)
    | (with_reducible refine AW_regionP 3 [5] ?_)
    | (with_reducible refine AW_regionP 4 [1, 2, 5] ?_)
    | (with_reducible refine AW_regionP 5 [1, 2, 5, 6, 7] ?_)
    | (with_reducible refine AW_regionP 6 [1, 2, 5, 6, 7, 8, 9] ?_)
    | (with_reducible refine AW_regionP 7 [1, 5, 6, 7, 8, 9, 10, 11] ?_)
    | (with_reducible refine AW_regionP 8 [1, 5, 6, 8, 9, 10, 11] ?_)
    | (with_reducible refine AW_regionP 9 [1, 5, 8, 9, 11] ?_)
    | (with_reducible refine AW_regionP 10 [1, 5, 6, 8, 9, 10] ?_)
    | (with_reducible refine AW_regionP 11 [1, 5, 6, 8, 9, 10, 12, 13] ?_)
    | (with_reducible refine AW_regionP 12 [1, 5, 6, 8, 9, 10, 12, 13, 14, 15] ?_)
    | (with_reducible refine AW_regionP 13 [1, 5, 8, 14, 15] ?_)
    | (with_reducible refine AW_regionP 14 [5, 15] ?_)
    | (with_reducible refine AW_regionP 15 [1, 5, 8, 14, 15] ?_)
    | (refine callN_q (k := 11) fnok_11 (head_p) ?_ ?_)
    | (refine callGN_q (k := 13) fnok_13 (fun hg => valid_p n m D hn hm hD) ?_ ?_)
    | (refine callN_q (k := 24) fnok_24 (read_p n m D hn hm hD) ?_ ?_)
    | (refine callN_q (k := 24) fnok_24 (read_p n c64 D' hn (c64_le n) hD') ?_ ?_)
    | (refine callN_q (k := 27) fnok_27 (room_p n m D hn hm hD) ?_ ?_)
    | (refine callN_q (k := 27) fnok_27 (room_p n c64 D' hn (c64_le n) hD') ?_ ?_)
    | (refine callN_q (k := 18) fnok_18 (append_p n m D hn hm hD r R hr) ?_ ?_)
    | ((fail_if_success (with_reducible show AW _ _ _ _)); simp (maxSteps := 2000000) only [go_sem, reduceIte, reduceCtorEq, Nat.reduceAdd, Nat.reduceLT, Nat.reduceLeDiff, Nat.reduceEqDiff, Nat.reduceMul, Nat.reduceSub, Nat.reduceBEq, Try.f4, fnok_11, ty_24, sl_22, zc_25, fnok_12, fnok_13, fnok_24, fnok_27, fnok_18, zc_24, le_25, fnok_33, fnok_26, bytI, rowsI, hf, hv_, h1, h2, h3, h4, h5])
    | ((fail_if_success (with_reducible show AW _ _ _ _)); simp (disch := omega) only [seaWrap, seaDiv, seaMod])
    | ((with_reducible refine hK _ ?_); clear hK K))

set_option maxRecDepth 100000 in
set_option maxHeartbeats 4000000 in
theorem law4_ok0 (n : Nat) (m : Nat → Nat) (D : Nat → Nat → Int) (hn : n ≤ 9223372036854775807) (hm : ∀ i, i < n → m i ≤ 9223372036854775807) (hD : BytD D) (r : Nat) (R : Nat → Int) (hr : r ≤ 9223372036854775807) (hR : Byt R) (hf : (fewB n m 1 fun _ => r) = true) (hv_ : vB n m D = true) (h1 : rdE n m D = 0) (v : Nat) (h2 : roomE n m D = 0) (h3 : cutE n m D r 1048576 = 0) (h3' : cutN n m D r 1048576 = n) (h4 : roomV n m D = (v : Int)) (h5 : ((r : Int) ≤ (v : Int)) = True) (D' : Nat → Nat → Int) (hD' : BytD D') (he : apH n D r R 1048576 = D') (h6 : vB n c64 D' = true) (h7 : rdE n c64 D' = 0) (hq : readN n m D ≤ 1000000) (hq' : readN n c64 D' ≤ 1000000) (h8 : recsB (readN n c64 D') (recL (hv n D')) (recF (hv n D')) (readN n m D + 1) (snocM (readN n m D) (recL (hv n D)) r) (snocD (readN n m D) (recF (hv n D)) R) = true) (hv4 : v ≤ 4000) (hr6 : r ≤ 600) (h9 : v < r + 3) (h10 : roomE n c64 D' = 17) (h11 : True) : CallsP Try.prog 4 [.agg [.lst 1 (n) (rowsI (m) (D))], .one (.lst 1 (r) (bytI (R)))] (.t (.one (.g (.bool (true))))) := by
  refine CallsP_of Try.func4 rfl (by rw [Try.ntmps4]; simp) ?_
  simp only [Try.ntmps4, List.map_cons, List.map_nil, PT.tv, argEnv, Nat.zero_add, Nat.reduceAdd]
  repeat' (first
    | ((refine callN_q (k := 12) fnok_12 (few_1 (R := R) hn hm hr ?_) ?_ ?_); (focus (intro i o hi ho; first | exact IV.eqv_refl _ | (obtain rfl : o = 0 := (by omega); rcases i with _ | _ | i <;> first | omega | exact IV.eqv_refl _ | (refine ⟨rfl, rfl, fun i o hi ho => ?_⟩; obtain rfl : o = 0 := (by omega); first | exact IV.eqv_refl _ | (rcases i with _ | _ | _ | _ | _ | _ | _ | _ | _ | i <;> first | omega | exact IV.eqv_refl _))))))
    | (with_reducible refine AW_seq_k fun K hK => ?_)
    | ((first | (with_reducible refine And.intro ?_ ?_) | (with_reducible refine Need.mk ?_)); focus (first | exact True.intro | (with_reducible assumption) | omega | (refine ⟨?_, ?_⟩ <;> omega) | (intro _; first | exact True.intro | (with_reducible assumption) | omega) | (intros; (repeat' (first | exact True.intro | omega | (with_reducible assumption) | (with_reducible refine And.intro ?_ ?_))); done) | (simp (disch := omega) only [Bool.and_eq_true, Bool.or_eq_true, decide_eq_true_eq, bne_iff_ne, ne_eq] at *; first | done | omega | (intros; omega)) | (simp; done) | (simp; omega) | (simp +contextual; done) | (intro h; rw [h]; rfl) | (intros; simp_all; done)))
    | (with_reducible refine AW_skip ?_)
    | (with_reducible refine AW_exit ?_)
    | (with_reducible refine AW_ret ?_)
    | (with_reducible refine retK_n ?_)
    | (with_reducible refine retK_n' ?_)
    | (with_reducible refine retH_n rfl rfl rfl ?_)
    | (with_reducible refine retH_n' rfl rfl rfl ?_)
    | (with_reducible refine retO_n ?_ ?_)
    | (with_reducible refine retO_n' ?_ ?_)
    | (with_reducible refine AW_condI ?_)
    | (with_reducible refine AW_block ?_)
    | ((with_reducible refine condN_t ?_ ?_) <;> (intro hc; (try simp only [Bool.and_eq_true, Bool.or_eq_true, Bool.not_eq_true', Bool.and_eq_false_iff, Bool.or_eq_false_iff, decide_eq_true_eq, decide_eq_false_iff_not, bne_iff_ne, beq_iff_eq, reduceCtorEq, bne_eq_false_iff_eq, beq_eq_false_iff_ne, Bool.not_eq_false', Int.not_le, Int.not_lt, Bool.not_not] at hc); (skip); (try (exfalso; first | contradiction | omega))))
    | (with_reducible refine AW_regionP 0 [0, 1] ?_)
    | (with_reducible refine AW_regionP 1 [1, 2] ?_)
    | (with_reducible refine AW_regionP 2 [1, 2, 5] ?_)
    | (with_reducible refine AW_regionP 3 [5] ?_)
    | (with_reducible refine AW_regionP 4 [1, 2, 5] ?_)
    | (with_reducible refine AW_regionP 5 [1, 2, 5, 6, 7] ?_)
    | (with_reducible refine AW_regionP 6 [1, 2, 5, 6, 7, 8, 9] ?_)
    | (with_reducible refine AW_regionP 7 [1, 5, 6, 7, 8, 9, 10, 11] ?_)
    | (with_reducible refine AW_regionP 8 [1, 5, 6, 8, 9, 10, 11] ?_)
    | (with_reducible refine AW_regionP 9 [1, 5, 8, 9, 11] ?_)
    | (with_reducible refine AW_regionP 10 [1, 5, 6, 8, 9, 10] ?_)
    | (with_reducible refine AW_regionP 11 [1, 5, 6, 8, 9, 10, 12, 13] ?_)
    | (with_reducible refine AW_regionP 12 [1, 5, 6, 8, 9, 10, 12, 13, 14, 15] ?_)
    | (with_reducible refine AW_regionP 13 [1, 5, 8, 14, 15] ?_)
    | (with_reducible refine AW_regionP 14 [5, 15] ?_)
    | (with_reducible refine AW_regionP 15 [1, 5, 8, 14, 15] ?_)
    | (refine callN_q (k := 11) fnok_11 (head_p) ?_ ?_)
    | (refine callGN_q (k := 13) fnok_13 (fun hg => valid_p n m D hn hm hD) ?_ ?_)
    | (refine callGN_q (k := 13) fnok_13 (fun hg => valid_p n c64 D' hn (c64_le n) hD') ?_ ?_)
    | (refine callN_q (k := 24) fnok_24 (read_p n m D hn hm hD) ?_ ?_)
    | (refine callN_q (k := 24) fnok_24 (read_p n c64 D' hn (c64_le n) hD') ?_ ?_)
    | (refine callN_q (k := 27) fnok_27 (room_p n m D hn hm hD) ?_ ?_)
    | (refine callN_q (k := 27) fnok_27 (room_p n c64 D' hn (c64_le n) hD') ?_ ?_)
    | (refine callN_q (k := 18) fnok_18 (append_p n m D hn hm hD r R hr) ?_ ?_)
    | (refine callGN_q (k := 33) fnok_33 (fun hg => with_p (readN n m D) (recL (hv n D)) (recF (hv n D)) hq (fun i _ => by have := rl_bd (n := n) hD i; omega) r R) ?_ ?_)
    | (refine callGN_q (k := 26) fnok_26 (fun hg => recs_t (by omega) (by omega) (fun i _ => by have := rl_bd (n := n) hD' i; omega) (fun i _ => by unfold snocM; have := rl_bd (n := n) hD i; split <;> omega) h8) ?_ ?_)
    | ((fail_if_success (with_reducible show AW _ _ _ _)); simp (maxSteps := 2000000) only [go_sem, reduceIte, reduceCtorEq, Nat.reduceAdd, Nat.reduceLT, Nat.reduceLeDiff, Nat.reduceEqDiff, Nat.reduceMul, Nat.reduceSub, Nat.reduceBEq, Try.f4, fnok_11, ty_24, sl_22, zc_25, fnok_12, fnok_13, fnok_24, fnok_27, fnok_18, zc_24, le_25, fnok_33, fnok_26, bytI, rowsI, hf, hv_, h1, h2, h3, h3', h4, h5, he, h6, h7, h10, h11])
    | ((fail_if_success (with_reducible show AW _ _ _ _)); simp (disch := omega) only [seaWrap, seaDiv, seaMod])
    | ((with_reducible refine hK _ ?_); clear hK K))

set_option maxRecDepth 100000 in
set_option maxHeartbeats 4000000 in
theorem law4_ok1 (n : Nat) (m : Nat → Nat) (D : Nat → Nat → Int) (hn : n ≤ 9223372036854775807) (hm : ∀ i, i < n → m i ≤ 9223372036854775807) (hD : BytD D) (r : Nat) (R : Nat → Int) (hr : r ≤ 9223372036854775807) (hR : Byt R) (hf : (fewB n m 1 fun _ => r) = true) (hv_ : vB n m D = true) (h1 : rdE n m D = 0) (v : Nat) (h2 : roomE n m D = 0) (h3 : cutE n m D r 1048576 = 0) (h3' : cutN n m D r 1048576 = n) (h4 : roomV n m D = (v : Int)) (h5 : ((r : Int) ≤ (v : Int)) = True) (D' : Nat → Nat → Int) (hD' : BytD D') (he : apH n D r R 1048576 = D') (h6 : vB n c64 D' = true) (h7 : rdE n c64 D' = 0) (hq : readN n m D ≤ 1000000) (hq' : readN n c64 D' ≤ 1000000) (h8 : recsB (readN n c64 D') (recL (hv n D')) (recF (hv n D')) (readN n m D + 1) (snocM (readN n m D) (recL (hv n D)) r) (snocD (readN n m D) (recF (hv n D)) R) = true) (hv4 : v ≤ 4000) (hr6 : r ≤ 600) (h9 : ¬ v < r + 3) (h10 : roomE n c64 D' = 0) (h11 : roomV n c64 D' = (v : Int) - (r : Int) - 3) : CallsP Try.prog 4 [.agg [.lst 1 (n) (rowsI (m) (D))], .one (.lst 1 (r) (bytI (R)))] (.t (.one (.g (.bool (true))))) := by
  refine CallsP_of Try.func4 rfl (by rw [Try.ntmps4]; simp) ?_
  simp only [Try.ntmps4, List.map_cons, List.map_nil, PT.tv, argEnv, Nat.zero_add, Nat.reduceAdd]
  repeat' (first
    | ((refine callN_q (k := 12) fnok_12 (few_1 (R := R) hn hm hr ?_) ?_ ?_); (focus (intro i o hi ho; first | exact IV.eqv_refl _ | (obtain rfl : o = 0 := (by omega); rcases i with _ | _ | i <;> first | omega | exact IV.eqv_refl _ | (refine ⟨rfl, rfl, fun i o hi ho => ?_⟩; obtain rfl : o = 0 := (by omega); first | exact IV.eqv_refl _ | (rcases i with _ | _ | _ | _ | _ | _ | _ | _ | _ | i <;> first | omega | exact IV.eqv_refl _))))))
    | (with_reducible refine AW_seq_k fun K hK => ?_)
    | ((first | (with_reducible refine And.intro ?_ ?_) | (with_reducible refine Need.mk ?_)); focus (first | exact True.intro | (with_reducible assumption) | omega | (refine ⟨?_, ?_⟩ <;> omega) | (intro _; first | exact True.intro | (with_reducible assumption) | omega) | (intros; (repeat' (first | exact True.intro | omega | (with_reducible assumption) | (with_reducible refine And.intro ?_ ?_))); done) | (simp (disch := omega) only [Bool.and_eq_true, Bool.or_eq_true, decide_eq_true_eq, bne_iff_ne, ne_eq] at *; first | done | omega | (intros; omega)) | (simp; done) | (simp; omega) | (simp +contextual; done) | (intro h; rw [h]; rfl) | (intros; simp_all; done)))
    | (with_reducible refine AW_skip ?_)
    | (with_reducible refine AW_exit ?_)
    | (with_reducible refine AW_ret ?_)
    | (with_reducible refine retK_n ?_)
    | (with_reducible refine retK_n' ?_)
    | (with_reducible refine retH_n rfl rfl rfl ?_)
    | (with_reducible refine retH_n' rfl rfl rfl ?_)
    | (with_reducible refine retO_n ?_ ?_)
    | (with_reducible refine retO_n' ?_ ?_)
    | (with_reducible refine AW_condI ?_)
    | (with_reducible refine AW_block ?_)
    | ((with_reducible refine condN_t ?_ ?_) <;> (intro hc; (try simp only [Bool.and_eq_true, Bool.or_eq_true, Bool.not_eq_true', Bool.and_eq_false_iff, Bool.or_eq_false_iff, decide_eq_true_eq, decide_eq_false_iff_not, bne_iff_ne, beq_iff_eq, reduceCtorEq, bne_eq_false_iff_eq, beq_eq_false_iff_ne, Bool.not_eq_false', Int.not_le, Int.not_lt, Bool.not_not] at hc); (skip); (try (exfalso; first | contradiction | omega))))
    | (with_reducible refine AW_regionP 0 [0, 1] ?_)
    | (with_reducible refine AW_regionP 1 [1, 2] ?_)
    | (with_reducible refine AW_regionP 2 [1, 2, 5] ?_)
    | (with_reducible refine AW_regionP 3 [5] ?_)
    | (with_reducible refine AW_regionP 4 [1, 2, 5] ?_)
    | (with_reducible refine AW_regionP 5 [1, 2, 5, 6, 7] ?_)
    | (with_reducible refine AW_regionP 6 [1, 2, 5, 6, 7, 8, 9] ?_)
    | (with_reducible refine AW_regionP 7 [1, 5, 6, 7, 8, 9, 10, 11] ?_)
    | (with_reducible refine AW_regionP 8 [1, 5, 6, 8, 9, 10, 11] ?_)
    | (with_reducible refine AW_regionP 9 [1, 5, 8, 9, 11] ?_)
    | (with_reducible refine AW_regionP 10 [1, 5, 6, 8, 9, 10] ?_)
    | (with_reducible refine AW_regionP 11 [1, 5, 6, 8, 9, 10, 12, 13] ?_)
    | (with_reducible refine AW_regionP 12 [1, 5, 6, 8, 9, 10, 12, 13, 14, 15] ?_)
    | (with_reducible refine AW_regionP 13 [1, 5, 8, 14, 15] ?_)
    | (with_reducible refine AW_regionP 14 [5, 15] ?_)
    | (with_reducible refine AW_regionP 15 [1, 5, 8, 14, 15] ?_)
    | (refine callN_q (k := 11) fnok_11 (head_p) ?_ ?_)
    | (refine callGN_q (k := 13) fnok_13 (fun hg => valid_p n m D hn hm hD) ?_ ?_)
    | (refine callGN_q (k := 13) fnok_13 (fun hg => valid_p n c64 D' hn (c64_le n) hD') ?_ ?_)
    | (refine callN_q (k := 24) fnok_24 (read_p n m D hn hm hD) ?_ ?_)
    | (refine callN_q (k := 24) fnok_24 (read_p n c64 D' hn (c64_le n) hD') ?_ ?_)
    | (refine callN_q (k := 27) fnok_27 (room_p n m D hn hm hD) ?_ ?_)
    | (refine callN_q (k := 27) fnok_27 (room_p n c64 D' hn (c64_le n) hD') ?_ ?_)
    | (refine callN_q (k := 18) fnok_18 (append_p n m D hn hm hD r R hr) ?_ ?_)
    | (refine callGN_q (k := 33) fnok_33 (fun hg => with_p (readN n m D) (recL (hv n D)) (recF (hv n D)) hq (fun i _ => by have := rl_bd (n := n) hD i; omega) r R) ?_ ?_)
    | (refine callGN_q (k := 26) fnok_26 (fun hg => recs_t (by omega) (by omega) (fun i _ => by have := rl_bd (n := n) hD' i; omega) (fun i _ => by unfold snocM; have := rl_bd (n := n) hD i; split <;> omega) h8) ?_ ?_)
    | ((fail_if_success (with_reducible show AW _ _ _ _)); simp (maxSteps := 2000000) only [go_sem, reduceIte, reduceCtorEq, Nat.reduceAdd, Nat.reduceLT, Nat.reduceLeDiff, Nat.reduceEqDiff, Nat.reduceMul, Nat.reduceSub, Nat.reduceBEq, Try.f4, fnok_11, ty_24, sl_22, zc_25, fnok_12, fnok_13, fnok_24, fnok_27, fnok_18, zc_24, le_25, fnok_33, fnok_26, bytI, rowsI, hf, hv_, h1, h2, h3, h3', h4, h5, he, h6, h7, h10, h11])
    | ((fail_if_success (with_reducible show AW _ _ _ _)); simp (disch := omega) only [seaWrap, seaDiv, seaMod])
    | ((with_reducible refine hK _ ?_); clear hK K))

theorem encP_snoc (q : Nat) (M : Nat → Nat) (r : Nat) : encP (snocM q M r) (q + 1) = encP M q + (r + 3) := by
  show encP (snocM q M r) q + (snocM q M r q + 3) = _
  rw [encP_congr (m' := M) q (fun i hi => by unfold snocM; rw [if_pos hi])]
  unfold snocM
  rw [if_neg (Nat.lt_irrefl _)]
theorem few1_r {n : Nat} {m : Nat → Nat} {r : Nat} (h : (fewB n m 1 fun _ => r) = true) : n ≤ 17 ∧ r ≤ 600 := by
  have := of_decide_eq_true h
  exact ⟨this.1, this.2.2.2 0 (by omega)⟩
theorem law4 (n : Nat) (m : Nat → Nat) (D : Nat → Nat → Int) (hn : n ≤ 9223372036854775807) (hm : ∀ i, i < n → m i ≤ 9223372036854775807) (hD : BytD D) (r : Nat) (R : Nat → Int) (hr : r ≤ 9223372036854775807) (hR : Byt R) : CallsP Try.prog 4 [.agg [.lst 1 (n) (rowsI (m) (D))], .one (.lst 1 (r) (bytI (R)))] (.t (.one (.g (.bool true)))) := by
  cases hf : fewB n m 1 fun _ => r with
  | false => exact law4_b n m D hn hm hD r R hr hR (Or.inl hf)
  | true =>
    cases hv_ : vB n m D with
    | false => exact law4_b n m D hn hm hD r R hr hR (Or.inr hv_)
    | true =>
      obtain ⟨hn17, hr6⟩ := few1_r hf
      have hs := Has.self hv_
      have h1 := rdE_has hv_
      obtain ⟨r1, r2⟩ := room_has hs
      obtain ⟨c1, c2⟩ := cut_val (n := n) (m := m) (D := D) (r := r) (af := 1048576) hv_ (by omega) (by decide)
      have hle := readN_le (n := n) (m := m) (D := D)
      have hh : hlf n ≤ 8 := by unfold hlf; omega
      cases hfit : fitB n D r with
      | false =>
        have hnf := of_decide_eq_false hfit
        rw [hs.e] at hnf
        by_cases h3 : encP (recL (hv n D)) (readN n m D) + 3 ≤ hlf n * 64
        · obtain ⟨a, b⟩ := r1 h3
          exact law4_f1 n m D hn hm hD r R hr hR hf hv_ h1 _ a (c2 hfit) b (eq_true (by omega))
        · exact law4_f0 n m D hn hm hD r R hr hR hf hv_ h1 (r2 h3) (c2 hfit)
      | true =>
        have hft := of_decide_eq_true hfit
        rw [hs.e] at hft
        have hl := lim_lt (n := n) (m := m) (D := D) (r := r) (by omega)
        have hnw := cut_new (af := 1048576) hD R (by omega) hv_ hfit (by omega)
        have hD' : BytD (apH n D r R 1048576) := apH_b hD hR
        obtain ⟨a, b⟩ := r1 (by omega)
        obtain ⟨s1, s2⟩ := room_has hnw
        rw [encP_snoc] at s1 s2
        have hq' : readN n c64 (apH n D r R 1048576) ≤ 1000000 := by rw [hnw.c]; omega
        by_cases h9 : hlf n * 64 - encP (recL (hv n D)) (readN n m D) - 3 < r + 3
        · exact law4_ok0 n m D hn hm hD r R hr hR hf hv_ h1 _ a (c1 hfit).1 (c1 hfit).2 b (eq_true (by omega)) _ hD' rfl hnw.v (rdE_has hnw.v) (by omega) hq' hnw.recs (by omega) (by omega) h9 (s2 (by omega)) trivial
        · obtain ⟨u1, u2⟩ := s1 (by omega)
          exact law4_ok1 n m D hn hm hD r R hr hR hf hv_ h1 _ a (c1 hfit).1 (c1 hfit).2 b (eq_true (by omega)) _ hD' rfl hnw.v (rdE_has hnw.v) (by omega) hq' hnw.recs (by omega) (by omega) h9 u1 (by rw [u2]; omega)

end Go.Proofs.Ytifoncmlelinjaa
