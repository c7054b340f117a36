/- R: walks on abstract states. -/
import Derived.Test.YtifoncmlelinjaaQ
set_option linter.unusedVariables false
set_option linter.unusedSimpArgs false
namespace Go.Proofs.Ytifoncmlelinjaa
open Go.RowKit Go.Sea
attribute [local go_sem] callK_N gf gk gdrop lkL setL lsF ltAll rdyL bodyF roundQ roundS loopQ loopS jumpOf inLs yV yA bAV zipPut purgeG_nil purgeG_cons List.tail_cons Option.isNone_none Option.isNone_some callGK_f callDK_f callDGK_f retN retHN blockA arun_nil arun_plain arun_guard plainF guardF guardB arunD_nil arunD_plain arunD_guard plainDF guardDF guardDB AS.ent Eff.noApp Eff.tgt ftF AV.refs TV.refs CV.refs LV.refs Op.operands Call.operands List.append_toArray List.push_toArray List.flatMap_cons List.flatMap_nil List.toList_toArray Option.toArray nidF nidA List.reverse_cons List.reverse_nil opF AS.ev constA lk AS.get AV.tv AV.nd AS.eff AS.put argEnv PT.tv PV.av AV.mbOf hset hget TV.cells dstOk thenA gB isB toB TV.bool? TV.int? intF loadF storeF fieldF indexF lenF sliceF optI appF minmaxF ipCells fillF partsF lvsF TV.lv LV.tv purgeE purgeC purgeH AV.purge CV.purge AV.has TV.has CV.has LV.has calleeF argsF tvsF toPT toIV toIVs toPTs toPV iA bA List.map_cons List.map_nil List.length_nil List.length_cons List.getElem?_cons_zero List.getElem?_cons_succ List.getElem?_nil Option.getD_some Option.getD_none Option.bind_some Option.bind_none List.take_succ_cons List.take_zero List.drop_succ_cons List.drop_zero List.take_nil List.drop_nil List.cons_append List.nil_append List.append_nil List.getD_cons_zero List.getD_cons_succ Option.map_some Option.map_none Option.isSome_some Option.isSome_none List.size_toArray List.any_cons List.any_nil List.mem_cons if_true if_false ite_true ite_false cond_true cond_false Nat.zero_add Nat.add_zero Nat.sub_zero Nat.le_refl Nat.zero_mul Nat.mul_zero Nat.one_mul Nat.mul_one Int.toNat_zero Int.toNat_natCast Bool.or_false Bool.false_or Bool.or_true Bool.true_or Bool.and_true Bool.true_and Bool.and_false Bool.false_and beq_self_eq_true beq_true beq_false Bool.not_true Bool.not_false and_true true_and and_false false_and and_self imp_self Bool.cond_false_right Bool.cond_true_left implies_true forall_const true_implies false_implies Option.some.injEq Prod.mk.injEq ne_eq not_false_eq_true not_true_eq_false eq_self Nat.lt_irrefl Nat.not_lt_zero op2F ncF slice3F offF slArrF copyF clearF toArrF callDK_t calleeT eqN barOp boF seaMin seaMax seaNat1 seaNat2 Value.bool.injEq Value.int.injEq srcF TV.dp IV.eqv PT.eqv PV.eqv All2 keepE hupd callZ_N AS.frz AS.frzW frzs frzsOk frzOk frzE frzA frzT frzC frzG frzH hdel cmpS eqF eqC gvs eqVs eqV decide_true resF tupA inlQ okL okGL okG nextL nextF barOpN AS.mv mvE mvG_nil mvG_cons mvH mvO AV.mv TV.mv CV.mv LV.mv famL_mv famL_purge famL_snoc famL_zero wkH wkC wkV nilA nilC AV.ok TV.ok CV.ok LV.ok okB forall_eq_or_imp forall_eq List.not_mem_nil List.mem_singleton true_or or_true or_false false_or or_self exists_prop AV.t.injEq TV.one.injEq CV.iv.injEq IV.g.injEq TV.agg.injEq List.cons.injEq repC_0 repC_1 repC_2 repC_3 rowV_len rowV_pur rowV_has rowV_frz frzC isIv_iv civ_iv rowV_all List.map_append retON AV.to TV.to CV.to
theorem ty_86 : tyD Try.prog 86 = some (true, 2) := by kernel_rfl

theorem enc_lt {m : Nat → Nat} {D : Nat → Nat → Int} {k p : Nat} (h : p < encP m k) : encB m D (k + 1) p = encB m D k p := by simp only [encB]; rw [if_neg (by omega)]
theorem enc_at {m : Nat → Nat} {D : Nat → Nat → Int} {k j : Nat} : encB m D (k + 1) (encP m k + j) = formF (m k) (D k) j := by simp only [encB]; rw [if_pos (by omega), show encP m k + j - encP m k = j by omega]
theorem cmp_lt {m : Nat → Nat} {D : Nat → Nat → Int} {k p : Nat} (h : p < encP m k) : encB m D k p = cmpF m D k p := by unfold cmpF; rw [if_pos h]
theorem cmp_ge {m : Nat → Nat} {D : Nat → Nat → Int} {k p : Nat} (h : encP m k ≤ p) : cmpF m D k p = 0 := by unfold cmpF; rw [if_neg (by omega)]
def cpS (s Q i : Nat) : Nat := if i < Q then s + i else 0
def cpW (m : Nat → Nat) (D : Nat → Nat → Int) (n' : Nat) (G : Nat → Nat → Int) (v : Int) (Q i j : Nat) : Int := if i < Q then cmpF m D n' (i * 64 + j) else sw0 G v j
theorem cpW_Q {m : Nat → Nat} {D : Nat → Nat → Int} {n' : Nat} {G : Nat → Nat → Int} {v : Int} {Q : Nat} : cpW m D n' G v Q Q = sw0 G v := by
  funext j
  unfold cpW
  rw [if_neg (Nat.lt_irrefl _)]
theorem sw_eqv {D : Nat → Nat → Int} {k : Nat} (hk1 : k ≤ 1) : (IV.lst 1 64 fun p o => civ ((rowV (fun j => if j = 0 then IV.g (Value.int IntKind.u8 ((1 - (k : Int)) % 256)) else IV.g (Value.int IntKind.u8 (D 0 (1 + (j - 1))))) 64).getD (p + o) .any)).eqv (.lst 1 64 (bytI (sw0 D (1 - (k : Int))))) :=
  ⟨rfl, rfl, fun i o hi ho => rowV_eqv' (F := bytI (sw0 D (1 - (k : Int)))) (fun j hj => by
    unfold bytI sw0
    by_cases h : j = 0
    · rw [if_pos h, if_pos h]; exact u8_eqv (by omega)
    · rw [if_neg h, if_neg h]; exact u8_eqv (by congr 1; omega)) i o hi ho⟩

set_option maxRecDepth 100000 in
set_option maxHeartbeats 4000000 in
theorem compacts_no (n : Nat) (m : Nat → Nat) (D : Nat → Nat → Int) (hs : Szd n m) (hD : BytD D) (k : Nat) (hk1 : k ≤ 1) (hk : D 0 0 = (k : Int)) (n' : Nat) (m' : Nat → Nat) (D' : Nat → Nat → Int) (hn' : n' ≤ 100) (hm' : ∀ i, i < n' → m' i ≤ 65535) (L : Nat) (hLL : hlf n * 64 = L) (hfull : L < encP m' n') : CallsP Try.prog 51 [.agg [.lst 1 (n) (rowsI (m) (D))], .one (.lst 1 (n') (rowsI (m') (D')))] (.tup [.one (.g (.slice none 0 0)), .one (.g (.int .i64 (17)))]) := by
  have h3 := hs.h3
  have h64 := hs.h63
  have hl := hs.hlf
  have hm0 := hs.m 0 (by omega)
  have hm : ∀ i, i < n → m i ≤ 9223372036854775807 := fun i hi => by have := hs.m i hi; omega
  have hsz := hs.b
  have hd0 := hD 0 0
  have hd1 : ((k : Int) > 1) = False := eq_false (by omega)
  have hfl := firstN_le (n := n) (show 1 - k ≤ 1 by omega)
  have hb1 := encP_bd m' n' hm'
  have hk0 : ((1 - k : Nat) : Int) = 1 - (k : Int) := by omega
  have hl2 := hlf_int (show 1 ≤ n by omega)
  refine CallsP_of Try.func51 rfl (by rw [Try.ntmps51]; simp) ?_
  simp only [Try.ntmps51, List.map_cons, List.map_nil, PT.tv, argEnv, Nat.zero_add, Nat.reduceAdd]
  repeat' (first
    | (with_reducible refine AW_seq_k fun K hK => ?_)
    | ((first | (with_reducible refine And.intro ?_ ?_) | (with_reducible refine Need.mk ?_)); focus (first | exact True.intro | (with_reducible assumption) | omega | (refine ⟨?_, ?_⟩ <;> omega) | (intro _; first | exact True.intro | (with_reducible assumption) | omega) | (intros; (repeat' (first | exact True.intro | omega | (with_reducible assumption) | (with_reducible refine And.intro ?_ ?_))); done) | (simp (disch := omega) only [Bool.and_eq_true, Bool.or_eq_true, decide_eq_true_eq, bne_iff_ne, ne_eq] at *; first | done | omega | (intros; omega)) | (simp; done) | (simp; omega) | (simp +contextual; done) | (intro h; rw [h]; rfl) | (intros; simp_all; done)))
    | (with_reducible refine AW_skip ?_)
    | (with_reducible refine AW_exit ?_)
    | (with_reducible refine AW_ret ?_)
    | (with_reducible refine retK_n ?_)
    | (with_reducible refine retK_n' ?_)
    | (with_reducible refine retH_n rfl rfl rfl ?_)
    | (with_reducible refine retH_n' rfl rfl rfl ?_)
    | (with_reducible refine retO_n ?_ ?_)
    | (with_reducible refine retO_n' ?_ ?_)
    | (with_reducible refine AW_condI ?_)
    | (with_reducible refine AW_block ?_)
    | ((with_reducible refine condN_t ?_ ?_) <;> (intro hc; (try simp only [Bool.and_eq_true, Bool.or_eq_true, Bool.not_eq_true', Bool.and_eq_false_iff, Bool.or_eq_false_iff, decide_eq_true_eq, decide_eq_false_iff_not, bne_iff_ne, beq_iff_eq, reduceCtorEq, bne_eq_false_iff_eq, beq_eq_false_iff_ne, Bool.not_eq_false', Int.not_le, Int.not_lt, Bool.not_not] at hc); ((try (have e0 : n' = i := (by omega); subst e0)); (try (have e0 : j = m' i + 3 := (by omega); subst e0)); (try (have e0 : u = hlf n := (by omega); subst e0))); (try (exfalso; first | contradiction | omega))))
    | (with_reducible refine AW_regionP 0 [0, 1] ?_)
    | (with_reducible refine AW_regionP 1 [1, 2] ?_)
    | (with_reducible refine AW_regionP 2 [1, 2, 6] ?_)
    | (with_reducible refine AW_regionP 3 [1, 2, 6, 7] ?_)
    | (with_reducible refine AW_regionP 4 [1, 2, 6, 7, 8] ?_)
    | (with_reducible refine AW_regionP 5 [1, 2, 6, 7, 8, 9] ?_)
    | (with_reducible refine AW_regionP 6 [1, 2, 6, 7, 8, 9] ?_)
    | (with_reducible refine AW_regionP 7 [1, 2, 6, 7, 8, 9] ?_)
    | (with_reducible refine AW_regionP 8 [1, 2, 6, 7, 8, 9, 10] ?_)
    | (with_reducible refine AW_regionP 9 [] ?_)
    | (with_reducible refine AW_regionP 10 [1, 2, 6, 7, 8, 9, 10] ?_)
    | (with_reducible refine AW_regionP 11 [1, 2, 6, 7, 8, 9, 10, 11] ?_)
    | (with_reducible refine AW_regionP 12 [1, 2, 6, 7, 8, 9, 10, 11] ?_)
    | (with_reducible refine AW_regionP 13 [1, 2, 6, 7, 8, 9, 10, 11] ?_)
    | (with_reducible refine AW_regionP 14 [2, 6, 7, 8] ?_)
    | (with_reducible refine AW_regionP 15 [2, 6, 7, 8] ?_)
    | (with_reducible refine AW_regionP 16 [2, 6, 7, 8] ?_)
    | (with_reducible refine AW_regionP 17 [2, 6, 7, 8, 12] ?_)
    | (with_reducible refine AW_regionP 18 [2, 6, 7, 8, 12, 13] ?_)
    | (with_reducible refine AW_regionP 19 [2, 6, 7, 8, 12, 13] ?_)
    | (with_reducible refine AW_regionP 20 [2, 6, 7, 8, 12, 13] ?_)
    | (with_reducible refine AW_regionP 21 [2, 6, 12] ?_)
    | (with_reducible refine AW_regionP 22 [6, 12, 14] ?_)
    | (with_reducible refine AW_regionP 23 [12, 14] ?_)
    | (refine callN_q (k := 55) fnok_55 (rform_p (m' i) (D' i) (by have := hm' i; omega)) ?_ ?_)
    | (refine callN_q (k := 34) fnok_34 ((by have h := first_p n m D (1 - k) (by omega) (by omega) (by omega); rw [hk0] at h; exact h)) ?_ ?_)
    | (refine callN_hpq (k := 56) fnok_56 (ownArg2 (sector_o L (cmpF m' D' n') u (by omega) (by omega)) 1 3 rfl rfl) ?_ ?_)
    | (refine callN_hpq (k := 56) fnok_56 (sector_0 64 (D 0) (by omega) (by omega) _ 3 rfl) ?_ ?_)
    | ((with_reducible refine AW_loopQ (c := (Code.seq (Code.seq (Code.region 5 _ _) _) _)) (ι := Nat) [1, 2, 6, 8] (fun i => [(7, .t (.one (.slc 1 0 (encP m' i) 1))), (9, iA .i64 (i : Int))]) (fun i => [(1, rowV (bV (encB m' D' i)) (encP m' i))]) (fun i => i ≤ n' ∧ encP m' i ≤ L) (fun i => n' - i) 0 ?lg5 ?l15 ?l25 ?li5 ?lr5); (case' lg5 => rintro i _); (case' li5 => try (exact ⟨Nat.zero_le _, Nat.zero_le _⟩)); (case' lr5 => rintro i ⟨hi, hi2⟩ KR hR5; have hmi := hm' i; have hb3 := encP_mono m' i n' hi; have hb4 : i < n' → encP m' (i + 1) ≤ encP m' n' := (fun h => encP_mono m' (i + 1) n' (by omega)); have hb5 : encP m' (i + 1) = encP m' i + (m' i + 3) := rfl; simp only [keepE, hupd, hset, lk, if_true, if_false, Nat.reduceEqDiff, reduceIte, List.cons_append, List.nil_append, bytI, rowsI, hm0, hk, toNat3, rowV_take, rowV_drop, rowV_zero, rowV_cons, wrap8, Nat.zero_min, Nat.min_self, lstC_row, maxLen, hl2]))
    | ((with_reducible refine hR5 _ (i + 1) ?_); (try clear hR5 KR))
    | ((with_reducible refine AW_loopQ (c := (Code.seq (Code.seq (Code.region 11 _ _) _) _)) (ι := Nat) [1, 2, 6, 8, 9, 10] (fun j => [(7, .t (.one (.slc 1 0 (encP m' i + j) 1))), (11, iA .i64 (j : Int))]) (fun j => [(1, rowV (bV (encB m' D' (i + 1))) (encP m' i + j))]) (fun j => j ≤ m' i + 3) (fun j => m' i + 3 - j) 0 ?lg11 ?l111 ?l211 ?li11 ?lr11); (case' lg11 => rintro j _); (case' li11 => try (first | trivial | omega | (simp; done) | (simp; omega))); (case' lr11 => rintro j hj KR hR11; skip; simp only [keepE, hupd, hset, lk, if_true, if_false, Nat.reduceEqDiff, reduceIte, List.cons_append, List.nil_append, bytI, rowsI, hm0, hk, toNat3, rowV_take, rowV_drop, rowV_zero, rowV_cons, wrap8, Nat.zero_min, Nat.min_self, lstC_row, maxLen, hl2]))
    | ((with_reducible refine hR11 _ (j + 1) ?_); (try clear hR11 KR))
    | ((with_reducible refine Told.mk ?_); simp only [go_sem, reduceIte, reduceCtorEq, Nat.reduceAdd, Nat.reduceLT, Nat.reduceLeDiff, Nat.reduceEqDiff, Nat.reduceMul, Nat.reduceSub, Nat.reduceBEq, bytI, rowsI, hm0, hk, toNat3, rowV_take, rowV_drop, rowV_zero, rowV_cons, wrap8, Nat.zero_min, Nat.min_self, lstC_row, maxLen, hl2] <;> (first | exact True.intro | (((try simp (disch := omega) only [seaWrap, Int.natCast_add, Int.cast_ofNat_Int, and_true, true_and, and_self]); (repeat' (first | exact True.intro | omega | rfl | (with_reducible assumption) | (with_reducible refine And.intro ?_ ?_) | (exact all_succ (by assumption) (by assumption)) | (exact wkC_same _ _) | ((congr 1; omega)) | (exact wkC_eq (congrArg (rowV _) (by omega)) (rowV_iv _ _)) | (exact wkC_eq rfl (by simp [isIv]; done)) | (exact wkC_row _ fun j hj => u8_eqv (enc_lt (by omega)).symm) | (exact wkC_snoc' (u8_eqv enc_at.symm)) | (exact wkC_row _ fun j hj => u8_eqv (cmp_lt (by omega))) | (exact wkC_snoc' (u8_eqv (cmp_ge (by omega)).symm)) | (exact wr_snoc (i64_eqv (by unfold cpS; rw [if_pos (by omega)]; omega)) (row_eqv64 fun j hj => by unfold cpW; rw [if_pos (by omega)])))); done)) | (refine Stuck.out ?_)))
    | ((fail_if_success (with_reducible show AW _ _ _ _)); simp (maxSteps := 2000000) only [go_sem, reduceIte, reduceCtorEq, Nat.reduceAdd, Nat.reduceLT, Nat.reduceLeDiff, Nat.reduceEqDiff, Nat.reduceMul, Nat.reduceSub, Nat.reduceBEq, Try.f51, of_24_0, ty_22, sl_22, ar_22, ty_25, sl_25, ar_25, ty_5, in_3, le_22, fnok_55, le_25, zc_5, ty_24, fnok_34, fnok_56, zc_86, fo_86, pl_86_0, pl_86_1, sl_67, ty_86, of_86_1, ty_3, in_5, bytI, rowsI, hm0, hk, toNat3, rowV_take, rowV_drop, rowV_zero, rowV_cons, wrap8, Nat.zero_min, Nat.min_self, lstC_row, maxLen, hl2])
    | ((fail_if_success (with_reducible show AW _ _ _ _)); simp (disch := omega) only [seaWrap, seaDiv, seaMod])
    | ((with_reducible refine hK _ ?_); clear hK K)
    | (with_reducible apply_assumption -exfalso only [*]))

set_option maxRecDepth 100000 in
set_option maxHeartbeats 4000000 in
theorem compacts_ok (n : Nat) (m : Nat → Nat) (D : Nat → Nat → Int) (hs : Szd n m) (hD : BytD D) (k : Nat) (hk1 : k ≤ 1) (hk : D 0 0 = (k : Int)) (n' : Nat) (m' : Nat → Nat) (D' : Nat → Nat → Int) (hn' : n' ≤ 100) (hm' : ∀ i, i < n' → m' i ≤ 65535) (L : Nat) (hLL : hlf n * 64 = L) (hfit : encP m' n' ≤ L) : CallsP Try.prog 51 [.agg [.lst 1 (n) (rowsI (m) (D))], .one (.lst 1 (n') (rowsI (m') (D')))] (.tup [.one (.lst 2 (hlf n + 1) (wrI (cpS (firstN n (1 - k)) (hlf n)) (cpW m' D' n' D (1 - (k : Int)) (hlf n)))), .one (.g (.int .i64 (0)))]) := by
  have h3 := hs.h3
  have h64 := hs.h63
  have hl := hs.hlf
  have hm0 := hs.m 0 (by omega)
  have hm : ∀ i, i < n → m i ≤ 9223372036854775807 := fun i hi => by have := hs.m i hi; omega
  have hsz := hs.b
  have hd0 := hD 0 0
  have hd1 : ((k : Int) > 1) = False := eq_false (by omega)
  have hfl := firstN_le (n := n) (show 1 - k ≤ 1 by omega)
  have hb1 := encP_bd m' n' hm'
  have hk0 : ((1 - k : Nat) : Int) = 1 - (k : Int) := by omega
  have hl2 := hlf_int (show 1 ≤ n by omega)
  refine CallsP_of Try.func51 rfl (by rw [Try.ntmps51]; simp) ?_
  simp only [Try.ntmps51, List.map_cons, List.map_nil, PT.tv, argEnv, Nat.zero_add, Nat.reduceAdd]
  repeat' (first
    | (with_reducible refine AW_frz (c := Code.ret) [3] ?_ (AW_ret ?_))
    | (with_reducible refine AW_seq_k fun K hK => ?_)
    | ((first | (with_reducible refine And.intro ?_ ?_) | (with_reducible refine Need.mk ?_)); focus (first | exact True.intro | (with_reducible assumption) | omega | (refine ⟨?_, ?_⟩ <;> omega) | (intro _; first | exact True.intro | (with_reducible assumption) | omega) | (intros; (repeat' (first | exact True.intro | omega | (with_reducible assumption) | (with_reducible refine And.intro ?_ ?_))); done) | (simp (disch := omega) only [Bool.and_eq_true, Bool.or_eq_true, decide_eq_true_eq, bne_iff_ne, ne_eq] at *; first | done | omega | (intros; omega)) | (simp; done) | (simp; omega) | (simp +contextual; done) | (intro h; rw [h]; rfl) | (intros; simp_all; done)))
    | (with_reducible refine AW_skip ?_)
    | (with_reducible refine AW_exit ?_)
    | (with_reducible refine AW_ret ?_)
    | (with_reducible refine retK_n ?_)
    | (with_reducible refine retK_n' ?_)
    | (with_reducible refine retH_n rfl rfl rfl ?_)
    | (with_reducible refine retH_n' rfl rfl rfl ?_)
    | (with_reducible refine retO_n ?_ ?_)
    | (with_reducible refine retO_n' ?_ ?_)
    | (with_reducible refine AW_condI ?_)
    | (with_reducible refine AW_block ?_)
    | ((with_reducible refine condN_t ?_ ?_) <;> (intro hc; (try simp only [Bool.and_eq_true, Bool.or_eq_true, Bool.not_eq_true', Bool.and_eq_false_iff, Bool.or_eq_false_iff, decide_eq_true_eq, decide_eq_false_iff_not, bne_iff_ne, beq_iff_eq, reduceCtorEq, bne_eq_false_iff_eq, beq_eq_false_iff_ne, Bool.not_eq_false', Int.not_le, Int.not_lt, Bool.not_not] at hc); ((try (have e0 : n' = i := (by omega); subst e0)); (try (have e0 : j = m' i + 3 := (by omega); subst e0)); (try (have e0 : u = hlf n := (by omega); subst e0))); (try (exfalso; first | contradiction | omega))))
    | (with_reducible refine AW_regionP 0 [0, 1] ?_)
    | (with_reducible refine AW_regionP 1 [1, 2] ?_)
    | (with_reducible refine AW_regionP 2 [1, 2, 6] ?_)
    | (with_reducible refine AW_regionP 3 [1, 2, 6, 7] ?_)
    | (with_reducible refine AW_regionP 4 [1, 2, 6, 7, 8] ?_)
    | (with_reducible refine AW_regionP 5 [1, 2, 6, 7, 8, 9] ?_)
    | (with_reducible refine AW_regionP 6 [1, 2, 6, 7, 8, 9] ?_)
    | (with_reducible refine AW_regionP 7 [1, 2, 6, 7, 8, 9] ?_)
    | (with_reducible refine AW_regionP 8 [1, 2, 6, 7, 8, 9, 10] ?_)
    | (with_reducible refine AW_regionP 9 [] ?_)
    | (with_reducible refine AW_regionP 10 [1, 2, 6, 7, 8, 9, 10] ?_)
    | (with_reducible refine AW_regionP 11 [1, 2, 6, 7, 8, 9, 10, 11] ?_)
    | (with_reducible refine AW_regionP 12 [1, 2, 6, 7, 8, 9, 10, 11] ?_)
    | (with_reducible refine AW_regionP 13 [1, 2, 6, 7, 8, 9, 10, 11] ?_)
    | (with_reducible refine AW_regionP 14 [2, 6, 7, 8] ?_)
    | (with_reducible refine AW_regionP 15 [2, 6, 7, 8] ?_)
    | (with_reducible refine AW_regionP 16 [2, 6, 7, 8] ?_)
    | (with_reducible refine AW_regionP 17 [2, 6, 7, 8, 12] ?_)
    | (with_reducible refine AW_regionP 18 [2, 6, 7, 8, 12, 13] ?_)
    | (with_reducible refine AW_frz (c := Code.region 19 _ false) [3] ?_ (AW_regionP 19 [2, 6, 7, 8, 12, 13] ?_))
    | (with_reducible refine AW_regionP 20 [2, 6, 7, 8, 12, 13] ?_)
    | (with_reducible refine AW_regionP 21 [2, 6, 12] ?_)
    | (with_reducible refine AW_regionP 22 [6, 12, 14] ?_)
    | (with_reducible refine AW_regionP 23 [12, 14] ?_)
    | (refine callN_q (k := 55) fnok_55 (rform_p (m' i) (D' i) (by have := hm' i; omega)) ?_ ?_)
    | (refine callN_q (k := 34) fnok_34 ((by have h := first_p n m D (1 - k) (by omega) (by omega) (by omega); rw [hk0] at h; exact h)) ?_ ?_)
    | (refine callN_hpq (k := 56) fnok_56 (ownArg2 (sector_o L (cmpF m' D' n') u (by omega) (by omega)) 1 3 rfl rfl) ?_ ?_)
    | (refine callN_hpq (k := 56) fnok_56 (sector_0 64 (D 0) (by omega) (by omega) _ 3 rfl) ?_ ?_)
    | ((with_reducible refine AW_loopQ (c := (Code.seq (Code.seq (Code.region 5 _ _) _) _)) (ι := Nat) [1, 2, 6, 8] (fun i => [(7, .t (.one (.slc 1 0 (encP m' i) 1))), (9, iA .i64 (i : Int))]) (fun i => [(1, rowV (bV (encB m' D' i)) (encP m' i))]) (fun i => i ≤ n' ∧ encP m' i ≤ L) (fun i => n' - i) 0 ?lg5 ?l15 ?l25 ?li5 ?lr5); (case' lg5 => rintro i _); (case' li5 => try (exact ⟨Nat.zero_le _, Nat.zero_le _⟩)); (case' lr5 => rintro i ⟨hi, hi2⟩ KR hR5; have hmi := hm' i; have hb3 := encP_mono m' i n' hi; have hb4 : i < n' → encP m' (i + 1) ≤ encP m' n' := (fun h => encP_mono m' (i + 1) n' (by omega)); have hb5 : encP m' (i + 1) = encP m' i + (m' i + 3) := rfl; simp only [keepE, hupd, hset, lk, if_true, if_false, Nat.reduceEqDiff, reduceIte, List.cons_append, List.nil_append, bytI, rowsI, hm0, hk, toNat3, rowV_take, rowV_drop, rowV_zero, rowV_cons, wrap8, Nat.zero_min, Nat.min_self, lstC_row, maxLen, hl2]))
    | ((with_reducible refine hR5 _ (i + 1) ?_); (try clear hR5 KR))
    | ((with_reducible refine AW_loopQ (c := (Code.seq (Code.seq (Code.region 11 _ _) _) _)) (ι := Nat) [1, 2, 6, 8, 9, 10] (fun j => [(7, .t (.one (.slc 1 0 (encP m' i + j) 1))), (11, iA .i64 (j : Int))]) (fun j => [(1, rowV (bV (encB m' D' (i + 1))) (encP m' i + j))]) (fun j => j ≤ m' i + 3) (fun j => m' i + 3 - j) 0 ?lg11 ?l111 ?l211 ?li11 ?lr11); (case' lg11 => rintro j _); (case' li11 => try (first | trivial | omega | (simp; done) | (simp; omega))); (case' lr11 => rintro j hj KR hR11; skip; simp only [keepE, hupd, hset, lk, if_true, if_false, Nat.reduceEqDiff, reduceIte, List.cons_append, List.nil_append, bytI, rowsI, hm0, hk, toNat3, rowV_take, rowV_drop, rowV_zero, rowV_cons, wrap8, Nat.zero_min, Nat.min_self, lstC_row, maxLen, hl2]))
    | ((with_reducible refine hR11 _ (j + 1) ?_); (try clear hR11 KR))
    | ((with_reducible refine AW_loopQ (c := (Code.seq (Code.seq (Code.region 14 _ _) _) _)) (ι := Nat) [2, 6, 8] (fun q => [(7, .t (.one (.slc 1 0 (encP m' n' + q) 1)))]) (fun q => [(1, rowV (bV (cmpF m' D' n')) (encP m' n' + q))]) (fun q => encP m' n' + q ≤ L) (fun q => L - (encP m' n' + q)) 0 ?lg14 ?l114 ?l214 ?li14 ?lr14); (case' lg14 => rintro q _); (case' li14 => try (first | trivial | omega | (simp; done) | (simp; omega))); (case' lr14 => rintro q hq KR hR14; skip; simp only [keepE, hupd, hset, lk, if_true, if_false, Nat.reduceEqDiff, reduceIte, List.cons_append, List.nil_append, bytI, rowsI, hm0, hk, toNat3, rowV_take, rowV_drop, rowV_zero, rowV_cons, wrap8, Nat.zero_min, Nat.min_self, lstC_row, maxLen, hl2]))
    | ((with_reducible refine hR14 _ (q + 1) ?_); (try clear hR14 KR))
    | ((with_reducible refine AW_loopQ (c := (Code.seq (Code.seq (Code.region 18 _ _) _) _)) (ι := Nat) [2, 6, 8] (fun u => [(7, .t (.one (.slc 1 0 L 1))), (12, .t (.one (.slc 2 0 u 2))), (13, iA .i64 (u : Int))]) (fun u => [(1, rowV (bV (cmpF m' D' n')) L), (2, rowV (wrC (cpS (firstN n (1 - k)) (hlf n)) (cpW m' D' n' D (1 - (k : Int)) (hlf n))) (u * 2))]) (fun u => u ≤ hlf n) (fun u => hlf n - u) 0 ?lg18 ?l118 ?l218 ?li18 ?lr18); (case' lg18 => rintro u _); (case' li18 => try (first | trivial | omega | (simp; done) | (simp; omega))); (case' lr18 => rintro u hu KR hR18; skip; simp only [keepE, hupd, hset, lk, if_true, if_false, Nat.reduceEqDiff, reduceIte, List.cons_append, List.nil_append, bytI, rowsI, hm0, hk, toNat3, rowV_take, rowV_drop, rowV_zero, rowV_cons, wrap8, Nat.zero_min, Nat.min_self, lstC_row, maxLen, hl2]))
    | ((with_reducible refine hR18 _ (u + 1) ?_); (try clear hR18 KR))
    | ((with_reducible refine Told.mk ?_); simp only [go_sem, reduceIte, reduceCtorEq, Nat.reduceAdd, Nat.reduceLT, Nat.reduceLeDiff, Nat.reduceEqDiff, Nat.reduceMul, Nat.reduceSub, Nat.reduceBEq, bytI, rowsI, hm0, hk, toNat3, rowV_take, rowV_drop, rowV_zero, rowV_cons, wrap8, Nat.zero_min, Nat.min_self, lstC_row, maxLen, hl2] <;> (first | exact True.intro | (((try simp (disch := omega) only [seaWrap, Int.natCast_add, Int.cast_ofNat_Int, and_true, true_and, and_self]); (repeat' (first | exact True.intro | omega | rfl | (with_reducible assumption) | (with_reducible refine And.intro ?_ ?_) | (exact all_succ (by assumption) (by assumption)) | (exact wkC_same _ _) | ((congr 1; omega)) | (exact wkC_eq (congrArg (rowV _) (by omega)) (rowV_iv _ _)) | (exact wkC_eq rfl (by simp [isIv]; done)) | (exact wkC_row _ fun j hj => u8_eqv (enc_lt (by omega)).symm) | (exact wkC_snoc' (u8_eqv enc_at.symm)) | (exact wkC_row _ fun j hj => u8_eqv (cmp_lt (by omega))) | (exact wkC_snoc' (u8_eqv (cmp_ge (by omega)).symm)) | (exact wr_snoc (i64_eqv (by unfold cpS; rw [if_pos (by omega)]; omega)) (row_eqv64 fun j hj => by unfold cpW; rw [if_pos (by omega)])))); done)) | (refine Stuck.out ?_)))
    | ((fail_if_success (with_reducible show AW _ _ _ _)); simp (maxSteps := 2000000) only [go_sem, reduceIte, reduceCtorEq, Nat.reduceAdd, Nat.reduceLT, Nat.reduceLeDiff, Nat.reduceEqDiff, Nat.reduceMul, Nat.reduceSub, Nat.reduceBEq, Try.f51, of_24_0, ty_22, sl_22, ar_22, ty_25, sl_25, ar_25, ty_5, in_3, le_22, fnok_55, le_25, zc_5, ty_24, fnok_34, fnok_56, zc_86, fo_86, pl_86_0, pl_86_1, sl_67, ty_86, of_86_1, ty_3, in_5, bytI, rowsI, hm0, hk, toNat3, rowV_take, rowV_drop, rowV_zero, rowV_cons, wrap8, Nat.zero_min, Nat.min_self, lstC_row, maxLen, hl2])
    | ((fail_if_success (with_reducible show AW _ _ _ _)); simp (disch := omega) only [seaWrap, seaDiv, seaMod])
    | ((with_reducible refine hK _ ?_); clear hK K)
    | (with_reducible apply_assumption -exfalso only [*]))
  all_goals exact ⟨wr_end, fun i o hi ho => wr_fin (i64_eqv (by unfold cpS; rw [if_neg (Nat.lt_irrefl _)]; rfl)) (IV.eqv_trans (sw_eqv hk1) (by rw [cpW_Q]; exact IV.eqv_refl _)) hi ho⟩

end Go.Proofs.Ytifoncmlelinjaa
