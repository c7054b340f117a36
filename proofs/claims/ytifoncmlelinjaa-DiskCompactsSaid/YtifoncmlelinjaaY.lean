/- Y: walks on abstract states. -/
import Derived.Test.YtifoncmlelinjaaX
set_option linter.unusedVariables false
set_option linter.unusedSimpArgs false
namespace Go.Proofs.Ytifoncmlelinjaa
open Go.RowKit Go.Sea
attribute [local go_sem] callK_N gf gk gdrop lkL setL lsF ltAll rdyL bodyF roundQ roundS loopQ loopS jumpOf inLs yV yA bAV zipPut purgeG_nil purgeG_cons List.tail_cons Option.isNone_none Option.isNone_some callGK_f callDK_f callDGK_f retN retHN blockA arun_nil arun_plain arun_guard plainF guardF guardB arunD_nil arunD_plain arunD_guard plainDF guardDF guardDB AS.ent Eff.noApp Eff.tgt ftF AV.refs TV.refs CV.refs LV.refs Op.operands Call.operands List.append_toArray List.push_toArray List.flatMap_cons List.flatMap_nil List.toList_toArray Option.toArray nidF nidA List.reverse_cons List.reverse_nil opF AS.ev constA lk AS.get AV.tv AV.nd AS.eff AS.put argEnv PT.tv PV.av AV.mbOf hset hget TV.cells dstOk thenA gB isB toB TV.bool? TV.int? intF loadF storeF fieldF indexF lenF sliceF optI appF minmaxF fillF partsF lvsF TV.lv LV.tv purgeE purgeC purgeH AV.purge CV.purge AV.has TV.has CV.has LV.has calleeF argsF tvsF toPT toIV toIVs toPTs toPV iA bA List.map_cons List.map_nil List.length_nil List.length_cons List.getElem?_cons_zero List.getElem?_cons_succ List.getElem?_nil Option.getD_some Option.getD_none Option.bind_some Option.bind_none List.take_succ_cons List.take_zero List.drop_succ_cons List.drop_zero List.take_nil List.drop_nil List.cons_append List.nil_append List.append_nil List.getD_cons_zero List.getD_cons_succ Option.map_some Option.map_none Option.isSome_some Option.isSome_none List.size_toArray List.any_cons List.any_nil List.mem_cons if_true if_false ite_true ite_false cond_true cond_false Nat.zero_add Nat.add_zero Nat.sub_zero Nat.le_refl Nat.zero_mul Nat.mul_zero Nat.one_mul Nat.mul_one Int.toNat_zero Int.toNat_natCast Bool.or_false Bool.false_or Bool.or_true Bool.true_or Bool.and_true Bool.true_and Bool.and_false Bool.false_and beq_self_eq_true beq_true beq_false Bool.not_true Bool.not_false and_true true_and and_false false_and and_self imp_self Bool.cond_false_right Bool.cond_true_left implies_true forall_const true_implies false_implies Option.some.injEq Prod.mk.injEq ne_eq not_false_eq_true not_true_eq_false eq_self Nat.lt_irrefl Nat.not_lt_zero op2F ncF slice3F offF slArrF copyF clearF toArrF callDK_t calleeT eqN barOp boF seaMin seaMax seaNat1 seaNat2 Value.bool.injEq Value.int.injEq srcF TV.dp IV.eqv PT.eqv PV.eqv All2 keepE hupd callZ_N AS.frz AS.frzW frzs frzsOk frzOk frzE frzA frzT frzC frzG frzH hdel cmpS eqF eqC gvs eqVs eqV decide_true resF tupA inlQ okL okGL okG nextL nextF barOpN AS.mv mvE mvG_nil mvG_cons mvH mvO AV.mv TV.mv CV.mv LV.mv famL_mv famL_purge famL_snoc famL_zero wkH wkC wkV nilA nilC AV.ok TV.ok CV.ok LV.ok okB forall_eq_or_imp forall_eq List.not_mem_nil List.mem_singleton true_or or_true or_false false_or or_self exists_prop AV.t.injEq TV.one.injEq CV.iv.injEq IV.g.injEq TV.agg.injEq List.cons.injEq repC_0 repC_1 repC_2 repC_3 rowV_len rowV_pur rowV_has rowV_frz frzC isIv_iv civ_iv rowV_all List.map_append retON AV.to TV.to CV.to


def two (r r2 : Nat) (i : Nat) : Nat := if i = 0 then r else r2
def twoD (R R2 : Nat → Int) (i : Nat) : Nat → Int := if i = 0 then R else R2
theorem few_2 {n : Nat} {m : Nat → Nat} {D : Nat → Nat → Int} {r r2 : Nat} {R R2 : Nat → Int} (hn : n ≤ 9223372036854775807) (hm : ∀ i, i < n → m i ≤ 9223372036854775807) (hr : r ≤ 9223372036854775807) (hr2 : r2 ≤ 9223372036854775807) {f : Nat → Nat → IV} (hf : ∀ i o, i < 2 → o < 1 → (f i o).eqv (rowsI (two r r2) (twoD R R2) i o)) : CallsP Try.prog 12 [.agg [.lst 1 n (rowsI m D)], .one (.lst 1 2 f)] (.t (.one (.g (.bool (fewB n m 2 (two r r2)))))) :=
  (few_p n m D 2 (two r r2) (twoD R R2) hn (by omega) hm (fun i _ => by unfold two; split <;> omega)).eqv ⟨PT.eqv_refl _, ⟨rfl, rfl, hf⟩, trivial⟩ (PV.eqv_refl _)
theorem few2_r {n : Nat} {m : Nat → Nat} {r r2 : Nat} (h : fewB n m 2 (two r r2) = true) : n ≤ 17 ∧ r ≤ 600 ∧ r2 ≤ 600 := by
  have := of_decide_eq_true h
  exact ⟨this.1, this.2.2.2 0 (by omega), this.2.2.2 1 (by omega)⟩
theorem recs_len {n n' : Nat} {m m' : Nat → Nat} {D D' : Nat → Nat → Int} (h : n ≠ n') : recsB n m D n' m' D' = false := decide_eq_false fun e => h e.1

set_option maxRecDepth 100000 in
set_option maxHeartbeats 4000000 in
theorem law5_b (n : Nat) (m : Nat → Nat) (D : Nat → Nat → Int) (hn : n ≤ 9223372036854775807) (hm : ∀ i, i < n → m i ≤ 9223372036854775807) (hD : BytD D) (r : Nat) (R : Nat → Int) (hr : r ≤ 9223372036854775807) (hR : Byt R) (r2 : Nat) (R2 : Nat → Int) (hr2 : r2 ≤ 9223372036854775807) (hR2 : Byt R2) (af : Int) (haf : -9223372036854775808 ≤ af ∧ af ≤ 9223372036854775807) (hb : fewB n m 2 (two r r2) = false ∨ vB n m D = false ∨ af < 0) : CallsP Try.prog 5 [.agg [.lst 1 (n) (rowsI (m) (D))], .one (.lst 1 (r) (bytI (R))), .one (.lst 1 (r2) (bytI (R2))), .one (.g (.int .i64 (af)))] (.t (.one (.g (.bool (true))))) := by
  refine CallsP_of Try.func5 rfl (by rw [Try.ntmps5]; simp) ?_
  simp only [Try.ntmps5, List.map_cons, List.map_nil, PT.tv, argEnv, Nat.zero_add, Nat.reduceAdd]
  repeat' (first
    | ((refine callN_q (k := 12) fnok_12 (few_2 (R := R) (R2 := R2) hn hm hr hr2 ?_) ?_ ?_); (focus (intro i o hi ho; first | exact IV.eqv_refl _ | (obtain rfl : o = 0 := (by omega); rcases i with _ | _ | i <;> first | omega | exact IV.eqv_refl _ | (refine ⟨rfl, rfl, fun i o hi ho => ?_⟩; obtain rfl : o = 0 := (by omega); first | exact IV.eqv_refl _ | (rcases i with _ | _ | _ | _ | _ | _ | _ | _ | _ | i <;> first | omega | exact IV.eqv_refl _))))))
    | (with_reducible refine AW_seq_k fun K hK => ?_)
    | ((first | (with_reducible refine And.intro ?_ ?_) | (with_reducible refine Need.mk ?_)); focus (first | exact True.intro | (with_reducible assumption) | omega | (refine ⟨?_, ?_⟩ <;> omega) | (intro _; first | exact True.intro | (with_reducible assumption) | omega) | (intros; (repeat' (first | exact True.intro | omega | (with_reducible assumption) | (with_reducible refine And.intro ?_ ?_))); done) | (simp (disch := omega) only [Bool.and_eq_true, Bool.or_eq_true, decide_eq_true_eq, bne_iff_ne, ne_eq] at *; first | done | omega | (intros; omega)) | (simp; done) | (simp; omega) | (simp +contextual; done) | (intro h; rw [h]; rfl) | (intros; simp_all; done)))
    | (with_reducible refine AW_skip ?_)
    | (with_reducible refine AW_exit ?_)
    | (with_reducible refine AW_ret ?_)
    | (with_reducible refine retK_n ?_)
    | (with_reducible refine retK_n' ?_)
    | (with_reducible refine retH_n rfl rfl rfl ?_)
    | (with_reducible refine retH_n' rfl rfl rfl ?_)
    | (with_reducible refine retO_n ?_ ?_)
    | (with_reducible refine retO_n' ?_ ?_)
    | (with_reducible refine AW_condI ?_)
    | (with_reducible refine AW_block ?_)
    | ((with_reducible refine condN_t ?_ ?_) <;> (intro hc; (try simp only [Bool.and_eq_true, Bool.or_eq_true, Bool.not_eq_true', Bool.and_eq_false_iff, Bool.or_eq_false_iff, decide_eq_true_eq, decide_eq_false_iff_not, bne_iff_ne, beq_iff_eq, reduceCtorEq, bne_eq_false_iff_eq, beq_eq_false_iff_ne, Bool.not_eq_false', Int.not_le, Int.not_lt, Bool.not_not] at hc); ((try (exfalso; rcases hb with hb | hb | hb; (have h9 := hc.1.1; rw [hb] at h9; cases h9); (have h9 := hc.1.2; rw [hb] at h9; cases h9); omega))); (try (exfalso; first | contradiction | omega))))
    | (with_reducible refine AW_regionP 0 [0, 1, 2, 3] ?_)
    | (with_reducible refine AW_regionP 1 [1, 2, 3, 4] ?_)
    | (with_reducible refine AW_regionP 2 [1, 2, 3, 4, 9] ?_)
    | (with_reducible refine AW_regionP 3 [9] ?_)
    | (with_reducible refine AW_regionP 4 [1, 2, 3, 4, 9] ?_)
    | (with_reducible refine AW_regionP 5 [1, 2, 3, 4, 9, 10, 11] ?_)
    | (with_reducible refine AW_regionP 6 [9, 11] ?_)
    | (with_reducible refine AW_regionP 7 [1, 2, 3, 4, 9, 10] ?_)
    | (with_reducible refine AW_regionP 8 [1, 2, 3, 4, 9, 10, 12, 13] ?_)
    | (with_reducible refine AW_regionP 9 [1, 2, 3, 4, 9, 10, 12, 13, 14, 15] ?_)
    | (with_reducible refine AW_regionP 10 [1, 2, 3, 9, 10, 12, 13, 14, 15, 16, 17] ?_)
    | (with_reducible refine AW_regionP 11 [2, 3, 9, 10, 12, 13, 14, 15, 16, 17, 18] ?_)
    | (with_reducible refine AW_regionP 12 [2, 9, 10, 14] ?_)
    | (with_reducible refine AW_regionP 13 [2, 9, 14, 19, 20] ?_)
    | (with_reducible refine AW_regionP 14 [9, 20] ?_)
    | (with_reducible refine AW_regionP 15 [2, 9, 14, 19] ?_)
    | (with_reducible refine AW_regionP 16 [2, 9, 14, 21, 22] ?_)
    | (refine callN_q (k := 11) fnok_11 (head_p) ?_ ?_)
    | (refine callGN_q (k := 13) fnok_13 (fun hg => valid_p n m D hn hm hD) ?_ ?_)
    | (refine callN_q (k := 20) fnok_20 (cut_p n m D hn hm hD r R hr af haf) ?_ ?_)
    | ((fail_if_success (with_reducible show AW _ _ _ _)); simp (maxSteps := 2000000) only [go_sem, reduceIte, reduceCtorEq, Nat.reduceAdd, Nat.reduceLT, Nat.reduceLeDiff, Nat.reduceEqDiff, Nat.reduceMul, Nat.reduceSub, Nat.reduceBEq, Try.f5, fnok_11, ty_24, sl_22, zc_25, fnok_12, fnok_13, fnok_20, zc_24, fnok_24, fnok_22, fnok_33, fnok_26, fnok_18, bytI, rowsI])
    | ((with_reducible refine hK _ ?_); clear hK K))

set_option maxRecDepth 100000 in
set_option maxHeartbeats 4000000 in
theorem law5_full (n : Nat) (m : Nat → Nat) (D : Nat → Nat → Int) (hn : n ≤ 9223372036854775807) (hm : ∀ i, i < n → m i ≤ 9223372036854775807) (hD : BytD D) (r : Nat) (R : Nat → Int) (hr : r ≤ 9223372036854775807) (hR : Byt R) (r2 : Nat) (R2 : Nat → Int) (hr2 : r2 ≤ 9223372036854775807) (hR2 : Byt R2) (af : Int) (haf : -9223372036854775808 ≤ af ∧ af ≤ 9223372036854775807) (hf : fewB n m 2 (two r r2) = true) (hv_ : vB n m D = true) (h0 : (af < 0) = False) (h3 : cutE n m D r af = 17) : CallsP Try.prog 5 [.agg [.lst 1 (n) (rowsI (m) (D))], .one (.lst 1 (r) (bytI (R))), .one (.lst 1 (r2) (bytI (R2))), .one (.g (.int .i64 (af)))] (.t (.one (.g (.bool (true))))) := by
  refine CallsP_of Try.func5 rfl (by rw [Try.ntmps5]; simp) ?_
  simp only [Try.ntmps5, List.map_cons, List.map_nil, PT.tv, argEnv, Nat.zero_add, Nat.reduceAdd]
  repeat' (first
    | ((refine callN_q (k := 12) fnok_12 (few_2 (R := R) (R2 := R2) hn hm hr hr2 ?_) ?_ ?_); (focus (intro i o hi ho; first | exact IV.eqv_refl _ | (obtain rfl : o = 0 := (by omega); rcases i with _ | _ | i <;> first | omega | exact IV.eqv_refl _ | (refine ⟨rfl, rfl, fun i o hi ho => ?_⟩; obtain rfl : o = 0 := (by omega); first | exact IV.eqv_refl _ | (rcases i with _ | _ | _ | _ | _ | _ | _ | _ | _ | i <;> first | omega | exact IV.eqv_refl _))))))
    | (with_reducible refine AW_seq_k fun K hK => ?_)
    | ((first | (with_reducible refine And.intro ?_ ?_) | (with_reducible refine Need.mk ?_)); focus (first | exact True.intro | (with_reducible assumption) | omega | (refine ⟨?_, ?_⟩ <;> omega) | (intro _; first | exact True.intro | (with_reducible assumption) | omega) | (intros; (repeat' (first | exact True.intro | omega | (with_reducible assumption) | (with_reducible refine And.intro ?_ ?_))); done) | (simp (disch := omega) only [Bool.and_eq_true, Bool.or_eq_true, decide_eq_true_eq, bne_iff_ne, ne_eq] at *; first | done | omega | (intros; omega)) | (simp; done) | (simp; omega) | (simp +contextual; done) | (intro h; rw [h]; rfl) | (intros; simp_all; done)))
    | (with_reducible refine AW_skip ?_)
    | (with_reducible refine AW_exit ?_)
    | (with_reducible refine AW_ret ?_)
    | (with_reducible refine retK_n ?_)
    | (with_reducible refine retK_n' ?_)
    | (with_reducible refine retH_n rfl rfl rfl ?_)
    | (with_reducible refine retH_n' rfl rfl rfl ?_)
    | (with_reducible refine retO_n ?_ ?_)
    | (with_reducible refine retO_n' ?_ ?_)
    | (with_reducible refine AW_condI ?_)
    | (with_reducible refine AW_block ?_)
    | ((with_reducible refine condN_t ?_ ?_) <;> (intro hc; (try simp only [Bool.and_eq_true, Bool.or_eq_true, Bool.not_eq_true', Bool.and_eq_false_iff, Bool.or_eq_false_iff, decide_eq_true_eq, decide_eq_false_iff_not, bne_iff_ne, beq_iff_eq, reduceCtorEq, bne_eq_false_iff_eq, beq_eq_false_iff_ne, Bool.not_eq_false', Int.not_le, Int.not_lt, Bool.not_not] at hc); (skip); (try (exfalso; first | contradiction | omega))))
    | (with_reducible refine AW_regionP 0 [0, 1, 2, 3] ?_)
    | (with_reducible refine AW_regionP 1 [1, 2, 3, 4] ?_)
    | (with_reducible refine AW_regionP 2 [1, 2, 3, 4, 9] ?_)
    | (with_reducible refine AW_regionP 3 [9] ?_)
    | (with_reducible refine AW_regionP 4 [1, 2, 3, 4, 9] ?_)
    | (with_reducible refine AW_regionP 5 [1, 2, 3, 4, 9, 10, 11] ?_)
    | (with_reducible refine AW_regionP 6 [9, 11] ?_)
    | (with_reducible refine AW_regionP 7 [1, 2, 3, 4, 9, 10] ?_)
    | (with_reducible refine AW_regionP 8 [1, 2, 3, 4, 9, 10, 12, 13] ?_)
    | (with_reducible refine AW_regionP 9 [1, 2, 3, 4, 9, 10, 12, 13, 14, 15] ?_)
    | (with_reducible refine AW_regionP 10 [1, 2, 3, 9, 10, 12, 13, 14, 15, 16, 17] ?_)
    | (with_reducible refine AW_regionP 11 [2, 3, 9, 10, 12, 13, 14, 15, 16, 17, 18] ?_)
    | (with_reducible refine AW_regionP 12 [2, 9, 10, 14] ?_)
    | (with_reducible refine AW_regionP 13 [2, 9, 14, 19, 20] ?_)
    | (with_reducible refine AW_regionP 14 [9, 20] ?_)
    | (with_reducible refine AW_regionP 15 [2, 9, 14, 19] ?_)
    | (with_reducible refine AW_regionP 16 [2, 9, 14, 21, 22] ?_)
    | (refine callN_q (k := 11) fnok_11 (head_p) ?_ ?_)
    | (refine callGN_q (k := 13) fnok_13 (fun hg => valid_p n m D hn hm hD) ?_ ?_)
    | (refine callN_q (k := 20) fnok_20 (cut_p n m D hn hm hD r R hr af haf) ?_ ?_)
    | ((fail_if_success (with_reducible show AW _ _ _ _)); simp (maxSteps := 2000000) only [go_sem, reduceIte, reduceCtorEq, Nat.reduceAdd, Nat.reduceLT, Nat.reduceLeDiff, Nat.reduceEqDiff, Nat.reduceMul, Nat.reduceSub, Nat.reduceBEq, Try.f5, fnok_11, ty_24, sl_22, zc_25, fnok_12, fnok_13, fnok_20, zc_24, fnok_24, fnok_22, fnok_33, fnok_26, fnok_18, bytI, rowsI, hf, hv_, h0, h3, decide_false])
    | ((with_reducible refine hK _ ?_); clear hK K))

set_option maxRecDepth 100000 in
set_option maxHeartbeats 4000000 in
theorem law5_old0 (n : Nat) (m : Nat → Nat) (D : Nat → Nat → Int) (hn : n ≤ 9223372036854775807) (hm : ∀ i, i < n → m i ≤ 9223372036854775807) (hD : BytD D) (r : Nat) (R : Nat → Int) (hr : r ≤ 9223372036854775807) (hR : Byt R) (r2 : Nat) (R2 : Nat → Int) (hr2 : r2 ≤ 9223372036854775807) (hR2 : Byt R2) (af : Int) (haf : -9223372036854775808 ≤ af ∧ af ≤ 9223372036854775807) (hf : fewB n m 2 (two r r2) = true) (hv_ : vB n m D = true) (h0 : (af < 0) = False) (h1 : rdE n m D = 0) (h3 : cutE n m D r af = 0) (h3' : cutN n m D r af = n) (h4 : cutE n m D r 0 = 0) (E : Nat → Nat → Int) (hE : BytD E) (he : apH n D r R af.toNat = E) (h6 : vB n c64 E = true) (h7 : rdE n c64 E = 0) (hq : readN n m D ≤ 1000000) (hq' : readN n c64 E ≤ 1000000) (b1 b2 : Bool) (h8 : recsB (readN n c64 E) (recL (hv n E)) (recF (hv n E)) (readN n m D + 1) (snocM (readN n m D) (recL (hv n D)) r) (snocD (readN n m D) (recF (hv n D)) R) = b1) (h9 : recsB (readN n c64 E) (recL (hv n E)) (recF (hv n E)) (readN n m D) (recL (hv n D)) (recF (hv n D)) = b2) (hb1 : b1 = false) (hb2 : b2 = true) (c : Int) (hc0 : costV n m D r = c) (hcc : (af < c) = True) (g1 : cutE n c64 E r2 1048576 = 17) : CallsP Try.prog 5 [.agg [.lst 1 (n) (rowsI (m) (D))], .one (.lst 1 (r) (bytI (R))), .one (.lst 1 (r2) (bytI (R2))), .one (.g (.int .i64 (af)))] (.t (.one (.g (.bool (true))))) := by
  subst hb1
  subst hb2
  have hx : True := trivial
  refine CallsP_of Try.func5 rfl (by rw [Try.ntmps5]; simp) ?_
  simp only [Try.ntmps5, List.map_cons, List.map_nil, PT.tv, argEnv, Nat.zero_add, Nat.reduceAdd]
  repeat' (first
    | ((refine callN_q (k := 12) fnok_12 (few_2 (R := R) (R2 := R2) hn hm hr hr2 ?_) ?_ ?_); (focus (intro i o hi ho; first | exact IV.eqv_refl _ | (obtain rfl : o = 0 := (by omega); rcases i with _ | _ | i <;> first | omega | exact IV.eqv_refl _ | (refine ⟨rfl, rfl, fun i o hi ho => ?_⟩; obtain rfl : o = 0 := (by omega); first | exact IV.eqv_refl _ | (rcases i with _ | _ | _ | _ | _ | _ | _ | _ | _ | i <;> first | omega | exact IV.eqv_refl _))))))
    | (with_reducible refine AW_seq_k fun K hK => ?_)
    | ((first | (with_reducible refine And.intro ?_ ?_) | (with_reducible refine Need.mk ?_)); focus (first | exact True.intro | (with_reducible assumption) | omega | (refine ⟨?_, ?_⟩ <;> omega) | (intro _; first | exact True.intro | (with_reducible assumption) | omega) | (intros; (repeat' (first | exact True.intro | omega | (with_reducible assumption) | (with_reducible refine And.intro ?_ ?_))); done) | (simp (disch := omega) only [Bool.and_eq_true, Bool.or_eq_true, decide_eq_true_eq, bne_iff_ne, ne_eq] at *; first | done | omega | (intros; omega)) | (simp; done) | (simp; omega) | (simp +contextual; done) | (intro h; rw [h]; rfl) | (intros; simp_all; done)))
    | (with_reducible refine AW_skip ?_)
    | (with_reducible refine AW_exit ?_)
    | (with_reducible refine AW_ret ?_)
    | (with_reducible refine retK_n ?_)
    | (with_reducible refine retK_n' ?_)
    | (with_reducible refine retH_n rfl rfl rfl ?_)
    | (with_reducible refine retH_n' rfl rfl rfl ?_)
    | (with_reducible refine retO_n ?_ ?_)
    | (with_reducible refine retO_n' ?_ ?_)
    | (with_reducible refine AW_condI ?_)
    | (with_reducible refine AW_block ?_)
    | ((with_reducible refine condN_t ?_ ?_) <;> (intro hc; (try simp only [Bool.and_eq_true, Bool.or_eq_true, Bool.not_eq_true', Bool.and_eq_false_iff, Bool.or_eq_false_iff, decide_eq_true_eq, decide_eq_false_iff_not, bne_iff_ne, beq_iff_eq, reduceCtorEq, bne_eq_false_iff_eq, beq_eq_false_iff_ne, Bool.not_eq_false', Int.not_le, Int.not_lt, Bool.not_not] at hc); (skip); (try (exfalso; first | contradiction | omega))))
    | (with_reducible refine AW_regionP 0 [0, 1, 2, 3] ?_)
    | (with_reducible refine AW_regionP 1 [1, 2, 3, 4] ?_)
    | (with_reducible refine AW_regionP 2 [1, 2, 3, 4, 9] ?_)
    | (with_reducible refine AW_regionP 3 [9] ?_)
    | (with_reducible refine AW_regionP 4 [1, 2, 3, 4, 9] ?_)
    | (with_reducible refine AW_regionP 5 [1, 2, 3, 4, 9, 10, 11] ?_)
    | (with_reducible refine AW_regionP 6 [9, 11] ?_)
    | (with_reducible refine AW_regionP 7 [1, 2, 3, 4, 9, 10] ?_)
    | (with_reducible refine AW_regionP 8 [1, 2, 3, 4, 9, 10, 12, 13] ?_)
    | (with_reducible refine AW_regionP 9 [1, 2, 3, 4, 9, 10, 12, 13, 14, 15] ?_)
    | (with_reducible refine AW_regionP 10 [1, 2, 3, 9, 10, 12, 13, 14, 15, 16, 17] ?_)
    | (with_reducible refine AW_regionP 11 [2, 3, 9, 10, 12, 13, 14, 15, 16, 17, 18] ?_)
    | (with_reducible refine AW_regionP 12 [2, 9, 10, 14] ?_)
    | (with_reducible refine AW_regionP 13 [2, 9, 14, 19, 20] ?_)
    | (with_reducible refine AW_regionP 14 [9, 20] ?_)
    | (with_reducible refine AW_regionP 15 [2, 9, 14, 19] ?_)
    | (with_reducible refine AW_regionP 16 [2, 9, 14, 21, 22] ?_)
    | (refine callN_q (k := 11) fnok_11 (head_p) ?_ ?_)
    | (refine callGN_q (k := 13) fnok_13 (fun hg => valid_p n m D hn hm hD) ?_ ?_)
    | (refine callN_q (k := 20) fnok_20 (cut_p n m D hn hm hD r R hr af haf) ?_ ?_)
    | (refine callN_q (k := 24) fnok_24 (read_p n m D hn hm hD) ?_ ?_)
    | (refine callN_q (k := 24) fnok_24 (read_p n c64 E hn (c64_le n) hE) ?_ ?_)
    | (refine callN_q (k := 22) fnok_22 (cost_p n m D hn hm hD r R hr) ?_ ?_)
    | (refine callN_q (k := 33) fnok_33 (with_p (readN n m D) (recL (hv n D)) (recF (hv n D)) (by omega) (fun i _ => by have := rl_bd (n := n) hD i; omega) r R) ?_ ?_)
    | (refine callGN_q (k := 33) fnok_33 (fun hg => with_p (readN n m D) (recL (hv n D)) (recF (hv n D)) (by omega) (fun i _ => by have := rl_bd (n := n) hD i; omega) r R) ?_ ?_)
    | (refine callN_q (k := 33) fnok_33 (with_p (readN n c64 E) (recL (hv n E)) (recF (hv n E)) (by omega) (fun i _ => by have := rl_bd (n := n) hE i; omega) r2 R2) ?_ ?_)
    | (refine callGN_q (k := 33) fnok_33 (fun hg => with_p (readN n c64 E) (recL (hv n E)) (recF (hv n E)) (by omega) (fun i _ => by have := rl_bd (n := n) hE i; omega) r2 R2) ?_ ?_)
    | (refine callN_q (k := 26) fnok_26 (recs_t (n := readN n c64 E) (m := recL (hv n E)) (D := recF (hv n E)) (n' := readN n m D + 1) (m' := snocM (readN n m D) (recL (hv n D)) r) (by omega) (by omega) (fun i _ => by have := rl_bd (n := n) hE i; omega) (fun i _ => by unfold snocM; have := rl_bd (n := n) hD i; split <;> omega) h8) ?_ ?_)
    | (refine callGN_q (k := 26) fnok_26 (fun hg => recs_t (n := readN n c64 E) (m := recL (hv n E)) (D := recF (hv n E)) (n' := readN n m D + 1) (m' := snocM (readN n m D) (recL (hv n D)) r) (by omega) (by omega) (fun i _ => by have := rl_bd (n := n) hE i; omega) (fun i _ => by unfold snocM; have := rl_bd (n := n) hD i; split <;> omega) h8) ?_ ?_)
    | (refine callN_q (k := 26) fnok_26 (recs_t (n := readN n c64 E) (m := recL (hv n E)) (D := recF (hv n E)) (n' := readN n m D) (m' := recL (hv n D)) (by omega) (by omega) (fun i _ => by have := rl_bd (n := n) hE i; omega) (fun i _ => by have := rl_bd (n := n) hD i; omega) h9) ?_ ?_)
    | (refine callGN_q (k := 26) fnok_26 (fun hg => recs_t (n := readN n c64 E) (m := recL (hv n E)) (D := recF (hv n E)) (n' := readN n m D) (m' := recL (hv n D)) (by omega) (by omega) (fun i _ => by have := rl_bd (n := n) hE i; omega) (fun i _ => by have := rl_bd (n := n) hD i; omega) h9) ?_ ?_)
    | (refine callN_q (k := 18) fnok_18 (append_p n c64 E hn (c64_le n) hE r2 R2 hr2) ?_ ?_)
    | ((fail_if_success (with_reducible show AW _ _ _ _)); simp (maxSteps := 2000000) only [go_sem, reduceIte, reduceCtorEq, Nat.reduceAdd, Nat.reduceLT, Nat.reduceLeDiff, Nat.reduceEqDiff, Nat.reduceMul, Nat.reduceSub, Nat.reduceBEq, Try.f5, fnok_11, ty_24, sl_22, zc_25, fnok_12, fnok_13, fnok_20, zc_24, fnok_24, fnok_22, fnok_33, fnok_26, fnok_18, bytI, rowsI, hf, hv_, h0, h1, h3, h3', h4, he, h6, h7, h8, h9, decide_false, decide_true, hx, hc0, hcc, g1])
    | ((with_reducible refine hK _ ?_); clear hK K))

set_option maxRecDepth 100000 in
set_option maxHeartbeats 4000000 in
theorem law5_old1 (n : Nat) (m : Nat → Nat) (D : Nat → Nat → Int) (hn : n ≤ 9223372036854775807) (hm : ∀ i, i < n → m i ≤ 9223372036854775807) (hD : BytD D) (r : Nat) (R : Nat → Int) (hr : r ≤ 9223372036854775807) (hR : Byt R) (r2 : Nat) (R2 : Nat → Int) (hr2 : r2 ≤ 9223372036854775807) (hR2 : Byt R2) (af : Int) (haf : -9223372036854775808 ≤ af ∧ af ≤ 9223372036854775807) (hf : fewB n m 2 (two r r2) = true) (hv_ : vB n m D = true) (h0 : (af < 0) = False) (h1 : rdE n m D = 0) (h3 : cutE n m D r af = 0) (h3' : cutN n m D r af = n) (h4 : cutE n m D r 0 = 0) (E : Nat → Nat → Int) (hE : BytD E) (he : apH n D r R af.toNat = E) (h6 : vB n c64 E = true) (h7 : rdE n c64 E = 0) (hq : readN n m D ≤ 1000000) (hq' : readN n c64 E ≤ 1000000) (b1 b2 : Bool) (h8 : recsB (readN n c64 E) (recL (hv n E)) (recF (hv n E)) (readN n m D + 1) (snocM (readN n m D) (recL (hv n D)) r) (snocD (readN n m D) (recF (hv n D)) R) = b1) (h9 : recsB (readN n c64 E) (recL (hv n E)) (recF (hv n E)) (readN n m D) (recL (hv n D)) (recF (hv n D)) = b2) (hb1 : b1 = false) (hb2 : b2 = true) (c : Int) (hc0 : costV n m D r = c) (hcc : (af < c) = True) (g1 : cutE n c64 E r2 1048576 = 0) (g2 : cutN n c64 E r2 1048576 = n) (G : Nat → Nat → Int) (hG : BytD G) (g3 : apH n E r2 R2 1048576 = G) (g4 : rdE n c64 G = 0) (g5 : readN n c64 G ≤ 1000000) (g6 : recsB (readN n c64 G) (recL (hv n G)) (recF (hv n G)) (readN n c64 E + 1) (snocM (readN n c64 E) (recL (hv n E)) r2) (snocD (readN n c64 E) (recF (hv n E)) R2) = true) : CallsP Try.prog 5 [.agg [.lst 1 (n) (rowsI (m) (D))], .one (.lst 1 (r) (bytI (R))), .one (.lst 1 (r2) (bytI (R2))), .one (.g (.int .i64 (af)))] (.t (.one (.g (.bool (true))))) := by
  subst hb1
  subst hb2
  have hx : True := trivial
  refine CallsP_of Try.func5 rfl (by rw [Try.ntmps5]; simp) ?_
  simp only [Try.ntmps5, List.map_cons, List.map_nil, PT.tv, argEnv, Nat.zero_add, Nat.reduceAdd]
  repeat' (first
    | ((refine callN_q (k := 12) fnok_12 (few_2 (R := R) (R2 := R2) hn hm hr hr2 ?_) ?_ ?_); (focus (intro i o hi ho; first | exact IV.eqv_refl _ | (obtain rfl : o = 0 := (by omega); rcases i with _ | _ | i <;> first | omega | exact IV.eqv_refl _ | (refine ⟨rfl, rfl, fun i o hi ho => ?_⟩; obtain rfl : o = 0 := (by omega); first | exact IV.eqv_refl _ | (rcases i with _ | _ | _ | _ | _ | _ | _ | _ | _ | i <;> first | omega | exact IV.eqv_refl _))))))
    | (with_reducible refine AW_seq_k fun K hK => ?_)
    | ((first | (with_reducible refine And.intro ?_ ?_) | (with_reducible refine Need.mk ?_)); focus (first | exact True.intro | (with_reducible assumption) | omega | (refine ⟨?_, ?_⟩ <;> omega) | (intro _; first | exact True.intro | (with_reducible assumption) | omega) | (intros; (repeat' (first | exact True.intro | omega | (with_reducible assumption) | (with_reducible refine And.intro ?_ ?_))); done) | (simp (disch := omega) only [Bool.and_eq_true, Bool.or_eq_true, decide_eq_true_eq, bne_iff_ne, ne_eq] at *; first | done | omega | (intros; omega)) | (simp; done) | (simp; omega) | (simp +contextual; done) | (intro h; rw [h]; rfl) | (intros; simp_all; done)))
    | (with_reducible refine AW_skip ?_)
    | (with_reducible refine AW_exit ?_)
    | (with_reducible refine AW_ret ?_)
    | (with_reducible refine retK_n ?_)
    | (with_reducible refine retK_n' ?_)
    | (with_reducible refine retH_n rfl rfl rfl ?_)
    | (with_reducible refine retH_n' rfl rfl rfl ?_)
    | (with_reducible refine retO_n ?_ ?_)
    | (with_reducible refine retO_n' ?_ ?_)
    | (with_reducible refine AW_condI ?_)
    | (with_reducible refine AW_block ?_)
    | ((with_reducible refine condN_t ?_ ?_) <;> (intro hc; (try simp only [Bool.and_eq_true, Bool.or_eq_true, Bool.not_eq_true', Bool.and_eq_false_iff, Bool.or_eq_false_iff, decide_eq_true_eq, decide_eq_false_iff_not, bne_iff_ne, beq_iff_eq, reduceCtorEq, bne_eq_false_iff_eq, beq_eq_false_iff_ne, Bool.not_eq_false', Int.not_le, Int.not_lt, Bool.not_not] at hc); (skip); (try (exfalso; first | contradiction | omega))))
    | (with_reducible refine AW_regionP 0 [0, 1, 2, 3] ?_)
    | (with_reducible refine AW_regionP 1 [1, 2, 3, 4] ?_)
    | (with_reducible refine AW_regionP 2 [1, 2, 3, 4, 9] ?_)
    | (with_reducible refine AW_regionP 3 [9] ?_)
    | (with_reducible refine AW_regionP 4 [1, 2, 3, 4, 9] ?_)
    | (with_reducible refine AW_regionP 5 [1, 2, 3, 4, 9, 10, 11] ?_)
    | (with_reducible refine AW_regionP 6 [9, 11] ?_)
    | (with_reducible refine AW_regionP 7 [1, 2, 3, 4, 9, 10] ?_)
    | (with_reducible refine AW_regionP 8 [1, 2, 3, 4, 9, 10, 12, 13] ?_)
    | (with_reducible refine AW_regionP 9 [1, 2, 3, 4, 9, 10, 12, 13, 14, 15] ?_)
    | (with_reducible refine AW_regionP 10 [1, 2, 3, 9, 10, 12, 13, 14, 15, 16, 17] ?_)
    | (with_reducible refine AW_regionP 11 [2, 3, 9, 10, 12, 13, 14, 15, 16, 17, 18] ?_)
    | (with_reducible refine AW_regionP 12 [2, 9, 10, 14] ?_)
    | (with_reducible refine AW_regionP 13 [2, 9, 14, 19, 20] ?_)
    | (with_reducible refine AW_regionP 14 [9, 20] ?_)
    | (with_reducible refine AW_regionP 15 [2, 9, 14, 19] ?_)
    | (with_reducible refine AW_regionP 16 [2, 9, 14, 21, 22] ?_)
    | (refine callN_q (k := 11) fnok_11 (head_p) ?_ ?_)
    | (refine callGN_q (k := 13) fnok_13 (fun hg => valid_p n m D hn hm hD) ?_ ?_)
    | (refine callN_q (k := 20) fnok_20 (cut_p n m D hn hm hD r R hr af haf) ?_ ?_)
    | (refine callN_q (k := 24) fnok_24 (read_p n m D hn hm hD) ?_ ?_)
    | (refine callN_q (k := 24) fnok_24 (read_p n c64 E hn (c64_le n) hE) ?_ ?_)
    | (refine callN_q (k := 24) fnok_24 (read_p n c64 G hn (c64_le n) hG) ?_ ?_)
    | (refine callN_q (k := 22) fnok_22 (cost_p n m D hn hm hD r R hr) ?_ ?_)
    | (refine callN_q (k := 33) fnok_33 (with_p (readN n m D) (recL (hv n D)) (recF (hv n D)) (by omega) (fun i _ => by have := rl_bd (n := n) hD i; omega) r R) ?_ ?_)
    | (refine callGN_q (k := 33) fnok_33 (fun hg => with_p (readN n m D) (recL (hv n D)) (recF (hv n D)) (by omega) (fun i _ => by have := rl_bd (n := n) hD i; omega) r R) ?_ ?_)
    | (refine callN_q (k := 33) fnok_33 (with_p (readN n c64 E) (recL (hv n E)) (recF (hv n E)) (by omega) (fun i _ => by have := rl_bd (n := n) hE i; omega) r2 R2) ?_ ?_)
    | (refine callGN_q (k := 33) fnok_33 (fun hg => with_p (readN n c64 E) (recL (hv n E)) (recF (hv n E)) (by omega) (fun i _ => by have := rl_bd (n := n) hE i; omega) r2 R2) ?_ ?_)
    | (refine callN_q (k := 26) fnok_26 (recs_t (n := readN n c64 E) (m := recL (hv n E)) (D := recF (hv n E)) (n' := readN n m D + 1) (m' := snocM (readN n m D) (recL (hv n D)) r) (by omega) (by omega) (fun i _ => by have := rl_bd (n := n) hE i; omega) (fun i _ => by unfold snocM; have := rl_bd (n := n) hD i; split <;> omega) h8) ?_ ?_)
    | (refine callGN_q (k := 26) fnok_26 (fun hg => recs_t (n := readN n c64 E) (m := recL (hv n E)) (D := recF (hv n E)) (n' := readN n m D + 1) (m' := snocM (readN n m D) (recL (hv n D)) r) (by omega) (by omega) (fun i _ => by have := rl_bd (n := n) hE i; omega) (fun i _ => by unfold snocM; have := rl_bd (n := n) hD i; split <;> omega) h8) ?_ ?_)
    | (refine callN_q (k := 26) fnok_26 (recs_t (n := readN n c64 E) (m := recL (hv n E)) (D := recF (hv n E)) (n' := readN n m D) (m' := recL (hv n D)) (by omega) (by omega) (fun i _ => by have := rl_bd (n := n) hE i; omega) (fun i _ => by have := rl_bd (n := n) hD i; omega) h9) ?_ ?_)
    | (refine callGN_q (k := 26) fnok_26 (fun hg => recs_t (n := readN n c64 E) (m := recL (hv n E)) (D := recF (hv n E)) (n' := readN n m D) (m' := recL (hv n D)) (by omega) (by omega) (fun i _ => by have := rl_bd (n := n) hE i; omega) (fun i _ => by have := rl_bd (n := n) hD i; omega) h9) ?_ ?_)
    | (refine callN_q (k := 26) fnok_26 (recs_t (n := readN n c64 G) (m := recL (hv n G)) (D := recF (hv n G)) (by omega) (by omega) (fun i _ => by have := rl_bd (n := n) hG i; omega) (fun i _ => by unfold snocM; have := rl_bd (n := n) hE i; split <;> omega) g6) ?_ ?_)
    | (refine callGN_q (k := 26) fnok_26 (fun hg => recs_t (n := readN n c64 G) (m := recL (hv n G)) (D := recF (hv n G)) (by omega) (by omega) (fun i _ => by have := rl_bd (n := n) hG i; omega) (fun i _ => by unfold snocM; have := rl_bd (n := n) hE i; split <;> omega) g6) ?_ ?_)
    | (refine callN_q (k := 18) fnok_18 (append_p n c64 E hn (c64_le n) hE r2 R2 hr2) ?_ ?_)
    | ((fail_if_success (with_reducible show AW _ _ _ _)); simp (maxSteps := 2000000) only [go_sem, reduceIte, reduceCtorEq, Nat.reduceAdd, Nat.reduceLT, Nat.reduceLeDiff, Nat.reduceEqDiff, Nat.reduceMul, Nat.reduceSub, Nat.reduceBEq, Try.f5, fnok_11, ty_24, sl_22, zc_25, fnok_12, fnok_13, fnok_20, zc_24, fnok_24, fnok_22, fnok_33, fnok_26, fnok_18, bytI, rowsI, hf, hv_, h0, h1, h3, h3', h4, he, h6, h7, h8, h9, decide_false, decide_true, hx, hc0, hcc, g1, g2, g3, g4, g6])
    | ((with_reducible refine hK _ ?_); clear hK K))

set_option maxRecDepth 100000 in
set_option maxHeartbeats 4000000 in
theorem law5_new0 (n : Nat) (m : Nat → Nat) (D : Nat → Nat → Int) (hn : n ≤ 9223372036854775807) (hm : ∀ i, i < n → m i ≤ 9223372036854775807) (hD : BytD D) (r : Nat) (R : Nat → Int) (hr : r ≤ 9223372036854775807) (hR : Byt R) (r2 : Nat) (R2 : Nat → Int) (hr2 : r2 ≤ 9223372036854775807) (hR2 : Byt R2) (af : Int) (haf : -9223372036854775808 ≤ af ∧ af ≤ 9223372036854775807) (hf : fewB n m 2 (two r r2) = true) (hv_ : vB n m D = true) (h0 : (af < 0) = False) (h1 : rdE n m D = 0) (h3 : cutE n m D r af = 0) (h3' : cutN n m D r af = n) (h4 : cutE n m D r 0 = 0) (E : Nat → Nat → Int) (hE : BytD E) (he : apH n D r R af.toNat = E) (h6 : vB n c64 E = true) (h7 : rdE n c64 E = 0) (hq : readN n m D ≤ 1000000) (hq' : readN n c64 E ≤ 1000000) (b1 b2 : Bool) (h8 : recsB (readN n c64 E) (recL (hv n E)) (recF (hv n E)) (readN n m D + 1) (snocM (readN n m D) (recL (hv n D)) r) (snocD (readN n m D) (recF (hv n D)) R) = b1) (h9 : recsB (readN n c64 E) (recL (hv n E)) (recF (hv n E)) (readN n m D) (recL (hv n D)) (recF (hv n D)) = b2) (hb1 : b1 = true) (c : Int) (hc0 : costV n m D r = c) (haf0 : (af > 0) = True) (g1 : cutE n c64 E r2 1048576 = 17) : CallsP Try.prog 5 [.agg [.lst 1 (n) (rowsI (m) (D))], .one (.lst 1 (r) (bytI (R))), .one (.lst 1 (r2) (bytI (R2))), .one (.g (.int .i64 (af)))] (.t (.one (.g (.bool (true))))) := by
  subst hb1
  have hx : True := trivial
  refine CallsP_of Try.func5 rfl (by rw [Try.ntmps5]; simp) ?_
  simp only [Try.ntmps5, List.map_cons, List.map_nil, PT.tv, argEnv, Nat.zero_add, Nat.reduceAdd]
  repeat' (first
    | ((refine callN_q (k := 12) fnok_12 (few_2 (R := R) (R2 := R2) hn hm hr hr2 ?_) ?_ ?_); (focus (intro i o hi ho; first | exact IV.eqv_refl _ | (obtain rfl : o = 0 := (by omega); rcases i with _ | _ | i <;> first | omega | exact IV.eqv_refl _ | (refine ⟨rfl, rfl, fun i o hi ho => ?_⟩; obtain rfl : o = 0 := (by omega); first | exact IV.eqv_refl _ | (rcases i with _ | _ | _ | _ | _ | _ | _ | _ | _ | i <;> first | omega | exact IV.eqv_refl _))))))
    | (with_reducible refine AW_seq_k fun K hK => ?_)
    | ((first | (with_reducible refine And.intro ?_ ?_) | (with_reducible refine Need.mk ?_)); focus (first | exact True.intro | (with_reducible assumption) | omega | (refine ⟨?_, ?_⟩ <;> omega) | (intro _; first | exact True.intro | (with_reducible assumption) | omega) | (intros; (repeat' (first | exact True.intro | omega | (with_reducible assumption) | (with_reducible refine And.intro ?_ ?_))); done) | (simp (disch := omega) only [Bool.and_eq_true, Bool.or_eq_true, decide_eq_true_eq, bne_iff_ne, ne_eq] at *; first | done | omega | (intros; omega)) | (simp; done) | (simp; omega) | (simp +contextual; done) | (intro h; rw [h]; rfl) | (intros; simp_all; done)))
    | (with_reducible refine AW_skip ?_)
    | (with_reducible refine AW_exit ?_)
    | (with_reducible refine AW_ret ?_)
    | (with_reducible refine retK_n ?_)
    | (with_reducible refine retK_n' ?_)
    | (with_reducible refine retH_n rfl rfl rfl ?_)
    | (with_reducible refine retH_n' rfl rfl rfl ?_)
    | (with_reducible refine retO_n ?_ ?_)
    | (with_reducible refine retO_n' ?_ ?_)
    | (with_reducible refine AW_condI ?_)
    | (with_reducible refine AW_block ?_)
    | ((with_reducible refine condN_t ?_ ?_) <;> (intro hc; (try simp only [Bool.and_eq_true, Bool.or_eq_true, Bool.not_eq_true', Bool.and_eq_false_iff, Bool.or_eq_false_iff, decide_eq_true_eq, decide_eq_false_iff_not, bne_iff_ne, beq_iff_eq, reduceCtorEq, bne_eq_false_iff_eq, beq_eq_false_iff_ne, Bool.not_eq_false', Int.not_le, Int.not_lt, Bool.not_not] at hc); (skip); (try (exfalso; first | contradiction | omega))))
    | (with_reducible refine AW_regionP 0 [0, 1, 2, 3] ?_)
    | (with_reducible refine AW_regionP 1 [1, 2, 3, 4] ?_)
    | (with_reducible refine AW_regionP 2 [1, 2, 3, 4, 9] ?_)
    | (with_reducible refine AW_regionP 3 [9] ?_)
    | (with_reducible refine AW_regionP 4 [1, 2, 3, 4, 9] ?_)
    | (with_reducible refine AW_regionP 5 [1, 2, 3, 4, 9, 10, 11] ?_)
    | (with_reducible refine AW_regionP 6 [9, 11] ?_)
    | (with_reducible refine AW_regionP 7 [1, 2, 3, 4, 9, 10] ?_)
    | (with_reducible refine AW_regionP 8 [1, 2, 3, 4, 9, 10, 12, 13] ?_)
    | (with_reducible refine AW_regionP 9 [1, 2, 3, 4, 9, 10, 12, 13, 14, 15] ?_)
    | (with_reducible refine AW_regionP 10 [1, 2, 3, 9, 10, 12, 13, 14, 15, 16, 17] ?_)
    | (with_reducible refine AW_regionP 11 [2, 3, 9, 10, 12, 13, 14, 15, 16, 17, 18] ?_)
    | (with_reducible refine AW_regionP 12 [2, 9, 10, 14] ?_)
    | (with_reducible refine AW_regionP 13 [2, 9, 14, 19, 20] ?_)
    | (with_reducible refine AW_regionP 14 [9, 20] ?_)
    | (with_reducible refine AW_regionP 15 [2, 9, 14, 19] ?_)
    | (with_reducible refine AW_regionP 16 [2, 9, 14, 21, 22] ?_)
    | (refine callN_q (k := 11) fnok_11 (head_p) ?_ ?_)
    | (refine callGN_q (k := 13) fnok_13 (fun hg => valid_p n m D hn hm hD) ?_ ?_)
    | (refine callN_q (k := 20) fnok_20 (cut_p n m D hn hm hD r R hr af haf) ?_ ?_)
    | (refine callN_q (k := 24) fnok_24 (read_p n m D hn hm hD) ?_ ?_)
    | (refine callN_q (k := 24) fnok_24 (read_p n c64 E hn (c64_le n) hE) ?_ ?_)
    | (refine callN_q (k := 22) fnok_22 (cost_p n m D hn hm hD r R hr) ?_ ?_)
    | (refine callN_q (k := 33) fnok_33 (with_p (readN n m D) (recL (hv n D)) (recF (hv n D)) (by omega) (fun i _ => by have := rl_bd (n := n) hD i; omega) r R) ?_ ?_)
    | (refine callGN_q (k := 33) fnok_33 (fun hg => with_p (readN n m D) (recL (hv n D)) (recF (hv n D)) (by omega) (fun i _ => by have := rl_bd (n := n) hD i; omega) r R) ?_ ?_)
    | (refine callN_q (k := 33) fnok_33 (with_p (readN n c64 E) (recL (hv n E)) (recF (hv n E)) (by omega) (fun i _ => by have := rl_bd (n := n) hE i; omega) r2 R2) ?_ ?_)
    | (refine callGN_q (k := 33) fnok_33 (fun hg => with_p (readN n c64 E) (recL (hv n E)) (recF (hv n E)) (by omega) (fun i _ => by have := rl_bd (n := n) hE i; omega) r2 R2) ?_ ?_)
    | (refine callN_q (k := 26) fnok_26 (recs_t (n := readN n c64 E) (m := recL (hv n E)) (D := recF (hv n E)) (n' := readN n m D + 1) (m' := snocM (readN n m D) (recL (hv n D)) r) (by omega) (by omega) (fun i _ => by have := rl_bd (n := n) hE i; omega) (fun i _ => by unfold snocM; have := rl_bd (n := n) hD i; split <;> omega) h8) ?_ ?_)
    | (refine callGN_q (k := 26) fnok_26 (fun hg => recs_t (n := readN n c64 E) (m := recL (hv n E)) (D := recF (hv n E)) (n' := readN n m D + 1) (m' := snocM (readN n m D) (recL (hv n D)) r) (by omega) (by omega) (fun i _ => by have := rl_bd (n := n) hE i; omega) (fun i _ => by unfold snocM; have := rl_bd (n := n) hD i; split <;> omega) h8) ?_ ?_)
    | (refine callN_q (k := 26) fnok_26 (recs_t (n := readN n c64 E) (m := recL (hv n E)) (D := recF (hv n E)) (n' := readN n m D) (m' := recL (hv n D)) (by omega) (by omega) (fun i _ => by have := rl_bd (n := n) hE i; omega) (fun i _ => by have := rl_bd (n := n) hD i; omega) h9) ?_ ?_)
    | (refine callGN_q (k := 26) fnok_26 (fun hg => recs_t (n := readN n c64 E) (m := recL (hv n E)) (D := recF (hv n E)) (n' := readN n m D) (m' := recL (hv n D)) (by omega) (by omega) (fun i _ => by have := rl_bd (n := n) hE i; omega) (fun i _ => by have := rl_bd (n := n) hD i; omega) h9) ?_ ?_)
    | (refine callN_q (k := 18) fnok_18 (append_p n c64 E hn (c64_le n) hE r2 R2 hr2) ?_ ?_)
    | ((fail_if_success (with_reducible show AW _ _ _ _)); simp (maxSteps := 2000000) only [go_sem, reduceIte, reduceCtorEq, Nat.reduceAdd, Nat.reduceLT, Nat.reduceLeDiff, Nat.reduceEqDiff, Nat.reduceMul, Nat.reduceSub, Nat.reduceBEq, Try.f5, fnok_11, ty_24, sl_22, zc_25, fnok_12, fnok_13, fnok_20, zc_24, fnok_24, fnok_22, fnok_33, fnok_26, fnok_18, bytI, rowsI, hf, hv_, h0, h1, h3, h3', h4, he, h6, h7, h8, h9, decide_false, decide_true, hx, hc0, haf0, g1])
    | ((with_reducible refine hK _ ?_); clear hK K))

set_option maxRecDepth 100000 in
set_option maxHeartbeats 4000000 in
theorem law5_new1 (n : Nat) (m : Nat → Nat) (D : Nat → Nat → Int) (hn : n ≤ 9223372036854775807) (hm : ∀ i, i < n → m i ≤ 9223372036854775807) (hD : BytD D) (r : Nat) (R : Nat → Int) (hr : r ≤ 9223372036854775807) (hR : Byt R) (r2 : Nat) (R2 : Nat → Int) (hr2 : r2 ≤ 9223372036854775807) (hR2 : Byt R2) (af : Int) (haf : -9223372036854775808 ≤ af ∧ af ≤ 9223372036854775807) (hf : fewB n m 2 (two r r2) = true) (hv_ : vB n m D = true) (h0 : (af < 0) = False) (h1 : rdE n m D = 0) (h3 : cutE n m D r af = 0) (h3' : cutN n m D r af = n) (h4 : cutE n m D r 0 = 0) (E : Nat → Nat → Int) (hE : BytD E) (he : apH n D r R af.toNat = E) (h6 : vB n c64 E = true) (h7 : rdE n c64 E = 0) (hq : readN n m D ≤ 1000000) (hq' : readN n c64 E ≤ 1000000) (b1 b2 : Bool) (h8 : recsB (readN n c64 E) (recL (hv n E)) (recF (hv n E)) (readN n m D + 1) (snocM (readN n m D) (recL (hv n D)) r) (snocD (readN n m D) (recF (hv n D)) R) = b1) (h9 : recsB (readN n c64 E) (recL (hv n E)) (recF (hv n E)) (readN n m D) (recL (hv n D)) (recF (hv n D)) = b2) (hb1 : b1 = true) (c : Int) (hc0 : costV n m D r = c) (haf0 : (af > 0) = True) (g1 : cutE n c64 E r2 1048576 = 0) (g2 : cutN n c64 E r2 1048576 = n) (G : Nat → Nat → Int) (hG : BytD G) (g3 : apH n E r2 R2 1048576 = G) (g4 : rdE n c64 G = 0) (g5 : readN n c64 G ≤ 1000000) (g6 : recsB (readN n c64 G) (recL (hv n G)) (recF (hv n G)) (readN n c64 E + 1) (snocM (readN n c64 E) (recL (hv n E)) r2) (snocD (readN n c64 E) (recF (hv n E)) R2) = true) : CallsP Try.prog 5 [.agg [.lst 1 (n) (rowsI (m) (D))], .one (.lst 1 (r) (bytI (R))), .one (.lst 1 (r2) (bytI (R2))), .one (.g (.int .i64 (af)))] (.t (.one (.g (.bool (true))))) := by
  subst hb1
  have hx : True := trivial
  refine CallsP_of Try.func5 rfl (by rw [Try.ntmps5]; simp) ?_
  simp only [Try.ntmps5, List.map_cons, List.map_nil, PT.tv, argEnv, Nat.zero_add, Nat.reduceAdd]
  repeat' (first
    | ((refine callN_q (k := 12) fnok_12 (few_2 (R := R) (R2 := R2) hn hm hr hr2 ?_) ?_ ?_); (focus (intro i o hi ho; first | exact IV.eqv_refl _ | (obtain rfl : o = 0 := (by omega); rcases i with _ | _ | i <;> first | omega | exact IV.eqv_refl _ | (refine ⟨rfl, rfl, fun i o hi ho => ?_⟩; obtain rfl : o = 0 := (by omega); first | exact IV.eqv_refl _ | (rcases i with _ | _ | _ | _ | _ | _ | _ | _ | _ | i <;> first | omega | exact IV.eqv_refl _))))))
    | (with_reducible refine AW_seq_k fun K hK => ?_)
    | ((first | (with_reducible refine And.intro ?_ ?_) | (with_reducible refine Need.mk ?_)); focus (first | exact True.intro | (with_reducible assumption) | omega | (refine ⟨?_, ?_⟩ <;> omega) | (intro _; first | exact True.intro | (with_reducible assumption) | omega) | (intros; (repeat' (first | exact True.intro | omega | (with_reducible assumption) | (with_reducible refine And.intro ?_ ?_))); done) | (simp (disch := omega) only [Bool.and_eq_true, Bool.or_eq_true, decide_eq_true_eq, bne_iff_ne, ne_eq] at *; first | done | omega | (intros; omega)) | (simp; done) | (simp; omega) | (simp +contextual; done) | (intro h; rw [h]; rfl) | (intros; simp_all; done)))
    | (with_reducible refine AW_skip ?_)
    | (with_reducible refine AW_exit ?_)
    | (with_reducible refine AW_ret ?_)
    | (with_reducible refine retK_n ?_)
    | (with_reducible refine retK_n' ?_)
    | (with_reducible refine retH_n rfl rfl rfl ?_)
    | (with_reducible refine retH_n' rfl rfl rfl ?_)
    | (with_reducible refine retO_n ?_ ?_)
    | (with_reducible refine retO_n' ?_ ?_)
    | (with_reducible refine AW_condI ?_)
    | (with_reducible refine AW_block ?_)
    | ((with_reducible refine condN_t ?_ ?_) <;> (intro hc; (try simp only [Bool.and_eq_true, Bool.or_eq_true, Bool.not_eq_true', Bool.and_eq_false_iff, Bool.or_eq_false_iff, decide_eq_true_eq, decide_eq_false_iff_not, bne_iff_ne, beq_iff_eq, reduceCtorEq, bne_eq_false_iff_eq, beq_eq_false_iff_ne, Bool.not_eq_false', Int.not_le, Int.not_lt, Bool.not_not] at hc); (skip); (try (exfalso; first | contradiction | omega))))
    | (with_reducible refine AW_regionP 0 [0, 1, 2, 3] ?_)
    | (with_reducible refine AW_regionP 1 [1, 2, 3, 4] ?_)
    | (with_reducible refine AW_regionP 2 [1, 2, 3, 4, 9] ?_)
    | (with_reducible refine AW_regionP 3 [9] ?_)
    | (with_reducible refine AW_regionP 4 [1, 2, 3, 4, 9] ?_)
    | (with_reducible refine AW_regionP 5 [1, 2, 3, 4, 9, 10, 11] ?_)
    | (with_reducible refine AW_regionP 6 [9, 11] ?_)
    | (with_reducible refine AW_regionP 7 [1, 2, 3, 4, 9, 10] ?_)
    | (with_reducible refine AW_regionP 8 [1, 2, 3, 4, 9, 10, 12, 13] ?_)
    | (with_reducible refine AW_regionP 9 [1, 2, 3, 4, 9, 10, 12, 13, 14, 15] ?_)
    | (with_reducible refine AW_regionP 10 [1, 2, 3, 9, 10, 12, 13, 14, 15, 16, 17] ?_)
    | (with_reducible refine AW_regionP 11 [2, 3, 9, 10, 12, 13, 14, 15, 16, 17, 18] ?_)
    | (with_reducible refine AW_regionP 12 [2, 9, 10, 14] ?_)
    | (with_reducible refine AW_regionP 13 [2, 9, 14, 19, 20] ?_)
    | (with_reducible refine AW_regionP 14 [9, 20] ?_)
    | (with_reducible refine AW_regionP 15 [2, 9, 14, 19] ?_)
    | (with_reducible refine AW_regionP 16 [2, 9, 14, 21, 22] ?_)
    | (refine callN_q (k := 11) fnok_11 (head_p) ?_ ?_)
    | (refine callGN_q (k := 13) fnok_13 (fun hg => valid_p n m D hn hm hD) ?_ ?_)
    | (refine callN_q (k := 20) fnok_20 (cut_p n m D hn hm hD r R hr af haf) ?_ ?_)
    | (refine callN_q (k := 24) fnok_24 (read_p n m D hn hm hD) ?_ ?_)
    | (refine callN_q (k := 24) fnok_24 (read_p n c64 E hn (c64_le n) hE) ?_ ?_)
    | (refine callN_q (k := 24) fnok_24 (read_p n c64 G hn (c64_le n) hG) ?_ ?_)
    | (refine callN_q (k := 22) fnok_22 (cost_p n m D hn hm hD r R hr) ?_ ?_)
    | (refine callN_q (k := 33) fnok_33 (with_p (readN n m D) (recL (hv n D)) (recF (hv n D)) (by omega) (fun i _ => by have := rl_bd (n := n) hD i; omega) r R) ?_ ?_)
    | (refine callGN_q (k := 33) fnok_33 (fun hg => with_p (readN n m D) (recL (hv n D)) (recF (hv n D)) (by omega) (fun i _ => by have := rl_bd (n := n) hD i; omega) r R) ?_ ?_)
    | (refine callN_q (k := 33) fnok_33 (with_p (readN n c64 E) (recL (hv n E)) (recF (hv n E)) (by omega) (fun i _ => by have := rl_bd (n := n) hE i; omega) r2 R2) ?_ ?_)
    | (refine callGN_q (k := 33) fnok_33 (fun hg => with_p (readN n c64 E) (recL (hv n E)) (recF (hv n E)) (by omega) (fun i _ => by have := rl_bd (n := n) hE i; omega) r2 R2) ?_ ?_)
    | (refine callN_q (k := 26) fnok_26 (recs_t (n := readN n c64 E) (m := recL (hv n E)) (D := recF (hv n E)) (n' := readN n m D + 1) (m' := snocM (readN n m D) (recL (hv n D)) r) (by omega) (by omega) (fun i _ => by have := rl_bd (n := n) hE i; omega) (fun i _ => by unfold snocM; have := rl_bd (n := n) hD i; split <;> omega) h8) ?_ ?_)
    | (refine callGN_q (k := 26) fnok_26 (fun hg => recs_t (n := readN n c64 E) (m := recL (hv n E)) (D := recF (hv n E)) (n' := readN n m D + 1) (m' := snocM (readN n m D) (recL (hv n D)) r) (by omega) (by omega) (fun i _ => by have := rl_bd (n := n) hE i; omega) (fun i _ => by unfold snocM; have := rl_bd (n := n) hD i; split <;> omega) h8) ?_ ?_)
    | (refine callN_q (k := 26) fnok_26 (recs_t (n := readN n c64 E) (m := recL (hv n E)) (D := recF (hv n E)) (n' := readN n m D) (m' := recL (hv n D)) (by omega) (by omega) (fun i _ => by have := rl_bd (n := n) hE i; omega) (fun i _ => by have := rl_bd (n := n) hD i; omega) h9) ?_ ?_)
    | (refine callGN_q (k := 26) fnok_26 (fun hg => recs_t (n := readN n c64 E) (m := recL (hv n E)) (D := recF (hv n E)) (n' := readN n m D) (m' := recL (hv n D)) (by omega) (by omega) (fun i _ => by have := rl_bd (n := n) hE i; omega) (fun i _ => by have := rl_bd (n := n) hD i; omega) h9) ?_ ?_)
    | (refine callN_q (k := 26) fnok_26 (recs_t (n := readN n c64 G) (m := recL (hv n G)) (D := recF (hv n G)) (by omega) (by omega) (fun i _ => by have := rl_bd (n := n) hG i; omega) (fun i _ => by unfold snocM; have := rl_bd (n := n) hE i; split <;> omega) g6) ?_ ?_)
    | (refine callGN_q (k := 26) fnok_26 (fun hg => recs_t (n := readN n c64 G) (m := recL (hv n G)) (D := recF (hv n G)) (by omega) (by omega) (fun i _ => by have := rl_bd (n := n) hG i; omega) (fun i _ => by unfold snocM; have := rl_bd (n := n) hE i; split <;> omega) g6) ?_ ?_)
    | (refine callN_q (k := 18) fnok_18 (append_p n c64 E hn (c64_le n) hE r2 R2 hr2) ?_ ?_)
    | ((fail_if_success (with_reducible show AW _ _ _ _)); simp (maxSteps := 2000000) only [go_sem, reduceIte, reduceCtorEq, Nat.reduceAdd, Nat.reduceLT, Nat.reduceLeDiff, Nat.reduceEqDiff, Nat.reduceMul, Nat.reduceSub, Nat.reduceBEq, Try.f5, fnok_11, ty_24, sl_22, zc_25, fnok_12, fnok_13, fnok_20, zc_24, fnok_24, fnok_22, fnok_33, fnok_26, fnok_18, bytI, rowsI, hf, hv_, h0, h1, h3, h3', h4, he, h6, h7, h8, h9, decide_false, decide_true, hx, hc0, haf0, g1, g2, g3, g4, g6])
    | ((with_reducible refine hK _ ?_); clear hK K))

theorem law5 (n : Nat) (m : Nat → Nat) (D : Nat → Nat → Int) (hn : n ≤ 9223372036854775807) (hm : ∀ i, i < n → m i ≤ 9223372036854775807) (hD : BytD D) (r : Nat) (R : Nat → Int) (hr : r ≤ 9223372036854775807) (hR : Byt R) (r2 : Nat) (R2 : Nat → Int) (hr2 : r2 ≤ 9223372036854775807) (hR2 : Byt R2) (af : Int) (haf : -9223372036854775808 ≤ af ∧ af ≤ 9223372036854775807) : CallsP Try.prog 5 [.agg [.lst 1 (n) (rowsI (m) (D))], .one (.lst 1 (r) (bytI (R))), .one (.lst 1 (r2) (bytI (R2))), .one (.g (.int .i64 (af)))] (.t (.one (.g (.bool true)))) := by
  cases hf : fewB n m 2 (two r r2) with
  | false => exact law5_b n m D hn hm hD r R hr hR r2 R2 hr2 hR2 af haf (Or.inl hf)
  | true =>
    cases hv_ : vB n m D with
    | false => exact law5_b n m D hn hm hD r R hr hR r2 R2 hr2 hR2 af haf (Or.inr (Or.inl hv_))
    | true =>
      by_cases h0 : af < 0
      · exact law5_b n m D hn hm hD r R hr hR r2 R2 hr2 hR2 af haf (Or.inr (Or.inr h0))
      · obtain ⟨hn17, hr6, hr26⟩ := few2_r hf
        have h1 := rdE_has hv_
        obtain ⟨c1, c2⟩ := cut_val (n := n) (m := m) (D := D) (r := r) (af := af) hv_ (by omega) (by omega)
        obtain ⟨d1, _⟩ := cut_val (n := n) (m := m) (D := D) (r := r) (af := 0) hv_ (by omega) (by omega)
        have hle := readN_le (n := n) (m := m) (D := D)
        have hh : hlf n ≤ 8 := by unfold hlf; omega
        cases hfit : fitB n D r with
        | false => exact law5_full n m D hn hm hD r R hr hR r2 R2 hr2 hR2 af haf hf hv_ (eq_false h0) (c2 hfit)
        | true =>
          have hE : BytD (apH n D r R af.toNat) := apH_b hD hR
          have hleE := readN_le (n := n) (m := c64) (D := apH n D r R af.toNat)
          have hcost : costV n m D r = ((secsN (endP (hv n D) (hlf n * 64)) r (hlf n * 64) * 64 + 64 : Nat) : Int) := by unfold costV; rw [(d1 hfit).1]; rfl
          have hlim : lim n D r = secsN (endP (hv n D) (hlf n * 64)) r (hlf n * 64) * 64 + endP (hv n D) (hlf n * 64) % 64 := rfl
          have nxt : ∀ E : Nat → Nat → Int, BytD E → vB n c64 E = true → (fitB n E r2 = false → cutE n c64 E r2 1048576 = 17) ∧ (fitB n E r2 = true → (cutE n c64 E r2 1048576 = 0 ∧ cutN n c64 E r2 1048576 = n) ∧ Has n c64 (apH n E r2 R2 1048576) (readN n c64 E + 1) (snocM (readN n c64 E) (recL (hv n E)) r2) (snocD (readN n c64 E) (recF (hv n E)) R2)) := fun E hE hvE => by
            obtain ⟨e1, e2⟩ := cut_val (n := n) (m := c64) (D := E) (r := r2) (af := 1048576) hvE (by omega) (by decide)
            have hl := lim_lt (n := n) (m := m) (D := E) (r := r2) (by omega)
            exact ⟨e2, fun hf2 => ⟨e1 hf2, cut_new hE R2 (by omega) hvE hf2 (by omega)⟩⟩
          by_cases hl : lim n D r < af.toNat
          · have hnw := cut_new hD R (by omega) hv_ hfit hl
            obtain ⟨n1, n2⟩ := nxt _ hE hnw.v
            cases hfE : fitB n (apH n D r R af.toNat) r2 with
            | false => exact law5_new0 n m D hn hm hD r R hr hR r2 R2 hr2 hR2 af haf hf hv_ (eq_false h0) h1 (c1 hfit).1 (c1 hfit).2 (d1 hfit).1 _ hE rfl hnw.v (rdE_has hnw.v) (by omega) (by omega) _ _ rfl rfl hnw.recs _ hcost (eq_true (by omega)) (n1 hfE)
            | true =>
              obtain ⟨g1, g2⟩ := n2 hfE
              have hG : BytD (apH n (apH n D r R af.toNat) r2 R2 1048576) := apH_b hE hR2
              have hleG := readN_le (n := n) (m := c64) (D := apH n (apH n D r R af.toNat) r2 R2 1048576)
              exact law5_new1 n m D hn hm hD r R hr hR r2 R2 hr2 hR2 af haf hf hv_ (eq_false h0) h1 (c1 hfit).1 (c1 hfit).2 (d1 hfit).1 _ hE rfl hnw.v (rdE_has hnw.v) (by omega) (by omega) _ _ rfl rfl hnw.recs _ hcost (eq_true (by omega)) g1.1 g1.2 _ hG rfl (rdE_has g2.v) (by omega) g2.recs
          · have hol := cut_old hD R hv_ hfit (show af.toNat ≤ lim n D r by omega)
            obtain ⟨n1, n2⟩ := nxt _ hE hol.v
            have hb1 := recs_len (n := readN n c64 (apH n D r R af.toNat)) (n' := readN n m D + 1) (m := recL (hv n (apH n D r R af.toNat))) (m' := snocM (readN n m D) (recL (hv n D)) r) (D := recF (hv n (apH n D r R af.toNat))) (D' := snocD (readN n m D) (recF (hv n D)) R) (by rw [hol.c]; omega)
            cases hfE : fitB n (apH n D r R af.toNat) r2 with
            | false => exact law5_old0 n m D hn hm hD r R hr hR r2 R2 hr2 hR2 af haf hf hv_ (eq_false h0) h1 (c1 hfit).1 (c1 hfit).2 (d1 hfit).1 _ hE rfl hol.v (rdE_has hol.v) (by omega) (by omega) _ _ rfl rfl hb1 hol.recs _ hcost (eq_true (by omega)) (n1 hfE)
            | true =>
              obtain ⟨g1, g2⟩ := n2 hfE
              have hG : BytD (apH n (apH n D r R af.toNat) r2 R2 1048576) := apH_b hE hR2
              have hleG := readN_le (n := n) (m := c64) (D := apH n (apH n D r R af.toNat) r2 R2 1048576)
              exact law5_old1 n m D hn hm hD r R hr hR r2 R2 hr2 hR2 af haf hf hv_ (eq_false h0) h1 (c1 hfit).1 (c1 hfit).2 (d1 hfit).1 _ hE rfl hol.v (rdE_has hol.v) (by omega) (by omega) _ _ rfl rfl hb1 hol.recs _ hcost (eq_true (by omega)) g1.1 g1.2 _ hG rfl (rdE_has g2.v) (by omega) g2.recs

end Go.Proofs.Ytifoncmlelinjaa
