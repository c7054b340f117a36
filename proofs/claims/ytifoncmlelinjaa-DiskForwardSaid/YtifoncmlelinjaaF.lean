/- F: walks on abstract states. -/
import Derived.Test.YtifoncmlelinjaaE2
set_option linter.unusedVariables false
set_option linter.unusedSimpArgs false
namespace Go.Proofs.Ytifoncmlelinjaa
open Go.RowKit Go.Sea
attribute [local go_sem] callK_N gf gk gdrop lkL setL lsF ltAll rdyL bodyF roundQ roundS loopQ loopS jumpOf inLs yV yA bAV zipPut purgeG List.tail_cons Option.isNone_none Option.isNone_some callGK_f callDK_f callDGK_f retN retHN blockA arun_nil arun_plain arun_guard plainF guardF guardB arunD_nil arunD_plain arunD_guard plainDF guardDF guardDB AS.ent Eff.noApp Eff.tgt ftF AV.refs TV.refs CV.refs LV.refs Op.operands Call.operands List.append_toArray List.push_toArray List.flatMap_cons List.flatMap_nil List.toList_toArray Option.toArray nidF nidA List.reverse_cons List.reverse_nil opF AS.ev constA lk AS.get AV.tv AV.nd AS.eff AS.put argEnv PT.tv PV.av AV.mbOf hset hget TV.cells dstOk thenA gB isB toB TV.bool? TV.int? intF loadF storeF fieldF indexF lenF sliceF optI appF minmaxF ipCells fillF partsF lvsF TV.lv LV.tv purgeE purgeC purgeH AV.purge CV.purge AV.has TV.has CV.has LV.has calleeF argsF tvsF toPT toIV toIVs toPTs toPV iA bA List.map_cons List.map_nil List.length_nil List.length_cons List.getElem?_cons_zero List.getElem?_cons_succ List.getElem?_nil Option.getD_some Option.getD_none Option.bind_some Option.bind_none List.take_succ_cons List.take_zero List.drop_succ_cons List.drop_zero List.take_nil List.drop_nil List.cons_append List.nil_append List.append_nil List.getD_cons_zero List.getD_cons_succ Option.map_some Option.map_none Option.isSome_some Option.isSome_none List.size_toArray List.any_cons List.any_nil List.mem_cons if_true if_false ite_true ite_false cond_true cond_false Nat.zero_add Nat.add_zero Nat.sub_zero Nat.le_refl Nat.zero_mul Nat.mul_zero Nat.one_mul Nat.mul_one Int.toNat_zero Int.toNat_natCast Bool.or_false Bool.false_or Bool.or_true Bool.true_or Bool.and_true Bool.true_and Bool.and_false Bool.false_and beq_self_eq_true beq_true beq_false Bool.not_true Bool.not_false and_true true_and and_false false_and and_self imp_self Bool.cond_false_right Bool.cond_true_left implies_true forall_const true_implies false_implies Option.some.injEq Prod.mk.injEq ne_eq not_false_eq_true not_true_eq_false eq_self Nat.lt_irrefl Nat.not_lt_zero op2F ncF slice3F offF slArrF copyF clearF toArrF callDK_t calleeT eqN barOp boF seaMin seaMax seaNat1 seaNat2 Value.bool.injEq Value.int.injEq srcF lstC TV.dp IV.eqv PT.eqv PV.eqv All2 keepE hupd callZ_N AS.frz AS.frzW frzs frzsOk frzOk frzE frzA frzT frzC frzG frzH hdel cmpS eqF eqC gvs eqVs eqV decide_true resF tupA inlQ okL okGL okG nextL wkH wkC wkV nilA nilC AV.ok TV.ok CV.ok LV.ok okB forall_eq_or_imp forall_eq List.not_mem_nil List.mem_singleton true_or or_true or_false false_or or_self exists_prop AV.t.injEq TV.one.injEq CV.iv.injEq IV.g.injEq TV.agg.injEq List.cons.injEq repC_0 repC_1 repC_2 repC_3 rowV_len rowV_pur rowV_has rowV_frz frzC isIv_iv civ_iv rowV_all List.map_append retON AV.to TV.to CV.to
theorem fnok_34 : fnOk Try.prog 34 = true := by kernel_rfl
theorem fnok_35 : fnOk Try.prog 35 = true := by kernel_rfl
theorem fnok_36 : fnOk Try.prog 36 = true := by kernel_rfl
theorem fnok_37 : fnOk Try.prog 37 = true := by kernel_rfl
theorem fnok_38 : fnOk Try.prog 38 = true := by kernel_rfl

theorem firstN_s (n k : Nat) : firstN n (k + 1) = firstN n k + hlf n := by unfold firstN hlf; rw [Nat.add_mul]; omega
theorem firstN_le {n k : Nat} (hk : k ≤ 1) : firstN n k ≤ 1 + hlf n := by
  rcases (by omega : k = 0 ∨ k = 1) with rfl | rfl <;> simp [firstN, hlf]
theorem first_q (n : Nat) (m : Nat → Nat) (D : Nat → Nat → Int) (k : Nat) (hn : n ≤ 9223372036854775807) (h1 : 1 ≤ n) (hk : k ≤ 1) : CallsP Try.prog 34 [.agg [.lst 1 n (rowsI m D)], .one (.g (.int .i64 ((k : Int) + 1)))] (.t (.one (.g (.int .i64 ((firstN n k + hlf n : Nat) : Int))))) := by
  have h := first_p n m D (k + 1) hn h1 (by omega)
  rw [firstN_s] at h
  exact h
theorem half_at {n : Nat} {D : Nat → Nat → Int} {k q j : Nat} (hj : j < 64) : halfF n D k (q * 64 + j) = D (firstN n k + q) j := by
  unfold halfF flatF
  rw [show (q * 64 + j) / 64 = q by omega, show (q * 64 + j) % 64 = j by omega]
def vB (n : Nat) (m : Nat → Nat) (D : Nat → Nat → Int) : Bool := sizedB n m && decide (D 0 0 ≤ 1) && okP (halfF n D (D 0 0).toNat) (hlf n * 64)
def hv (n : Nat) (D : Nat → Nat → Int) : Nat → Int := halfF n D (D 0 0).toNat
theorem vB_no1 {n : Nat} {m : Nat → Nat} {D : Nat → Nat → Int} (h : sizedB n m = false) : vB n m D = false := by unfold vB; rw [h]; rfl
theorem vB_no2 {n : Nat} {m : Nat → Nat} {D : Nat → Nat → Int} (h : 1 < D 0 0) : vB n m D = false := by
  unfold vB; rw [decide_eq_false (by omega), Bool.and_false]; rfl
theorem vB_ok {n : Nat} {m : Nat → Nat} {D : Nat → Nat → Int} (hs : Szd n m) {k : Nat} (hk1 : k ≤ 1) (hk : D 0 0 = (k : Int)) : vB n m D = okP (halfF n D k) (hlf n * 64) := by
  unfold vB
  rw [hs.b, hk, decide_eq_true (by omega : (k : Int) ≤ 1), Int.toNat_natCast]
  rfl
theorem hv_k {n : Nat} {D : Nat → Nat → Int} {k : Nat} (hk : D 0 0 = (k : Int)) : hv n D = halfF n D k := by unfold hv; rw [hk, Int.toNat_natCast]
theorem ok_fail {b : Nat → Int} {L : Nat} (h : okP b L = true) : ¬ failP b L := fun hf => by
  have h := of_decide_eq_true h
  obtain ⟨h1, h2⟩ := hf
  omega
theorem outN_ok {b : Nat → Int} {L : Nat} (h : okP b L = true) : outN b L = cnt b L := if_neg (ok_fail h)
theorem endR_ok {b : Nat → Int} {L : Nat} (h : okP b L = true) : endR b L = endP b L := if_neg (ok_fail h)
theorem endP_le (b : Nat → Int) (L : Nat) : endP b L ≤ L := by
  unfold endP
  have h := (cnt_go (b := b) (L := L)).1
  cases e : cnt b L with
  | zero => exact Nat.zero_le _
  | succ k => exact (h k (by omega)).2.2
/-- A disk is one of these. -/
theorem disk_cases (n : Nat) (m : Nat → Nat) (D : Nat → Nat → Int) (hD : BytD D) : sizedB n m = false ∨ (Szd n m ∧ 1 < D 0 0) ∨ ∃ k : Nat, Szd n m ∧ k ≤ 1 ∧ D 0 0 = (k : Int) := by
  cases hs : sizedB n m with
  | false => exact Or.inl rfl
  | true =>
    have h0 := hD 0 0
    by_cases h : 1 < D 0 0
    · exact Or.inr (Or.inl ⟨Szd.of hs, h⟩)
    · exact Or.inr (Or.inr ⟨(D 0 0).toNat, Szd.of hs, by omega, by omega⟩)

set_option maxRecDepth 100000 in
set_option maxHeartbeats 4000000 in
theorem half_p (n : Nat) (m : Nat → Nat) (D : Nat → Nat → Int) (hs : Szd n m) (k : Nat) (hk1 : k ≤ 1) : CallsP Try.prog 38 [.agg [.lst 1 (n) (rowsI (m) (D))], .one (.g (.int .i64 ((k : Int))))] (.t (.one (.lst 1 (hlf n * 64) (bytI (halfF n D k))))) := by
  have h3 := hs.h3
  have h64 := hs.h63
  have hl := hs.hlf
  have hf := firstN_le (n := n) hk1
  have hmm := hs.m
  refine CallsP_of Try.func38 rfl (by rw [Try.ntmps38]; simp) ?_
  simp only [Try.ntmps38, List.map_cons, List.map_nil, PT.tv, argEnv, Nat.zero_add, Nat.reduceAdd]
  repeat' (first
    | (with_reducible refine AW_seq_k fun K hK => ?_)
    | ((first | (with_reducible refine And.intro ?_ ?_) | (with_reducible refine Need.mk ?_)); focus (first | exact True.intro | (with_reducible assumption) | omega | (refine ⟨?_, ?_⟩ <;> omega) | (intro _; first | exact True.intro | (with_reducible assumption) | omega) | (intros; (repeat' (first | exact True.intro | omega | (with_reducible assumption) | (with_reducible refine And.intro ?_ ?_))); done) | (simp (disch := omega) only [Bool.and_eq_true, Bool.or_eq_true, decide_eq_true_eq, bne_iff_ne, ne_eq] at *; first | done | omega | (intros; omega)) | (simp; done) | (simp; omega) | (simp +contextual; done) | (intro h; rw [h]; rfl) | (intros; simp_all; done)))
    | (with_reducible refine AW_skip ?_)
    | (with_reducible refine AW_exit ?_)
    | (with_reducible refine AW_ret ?_)
    | (with_reducible refine retK_n ?_)
    | (with_reducible refine retK_n' ?_)
    | (with_reducible refine retH_n rfl rfl rfl ?_)
    | (with_reducible refine retH_n' rfl rfl rfl ?_)
    | (with_reducible refine retO_n ?_ ?_)
    | (with_reducible refine retO_n' ?_ ?_)
    | (with_reducible refine AW_condI ?_)
    | (with_reducible refine AW_block ?_)
    | ((with_reducible refine condN_t ?_ ?_) <;> (intro hc; (try simp only [Bool.and_eq_true, Bool.or_eq_true, Bool.not_eq_true', Bool.and_eq_false_iff, Bool.or_eq_false_iff, decide_eq_true_eq, decide_eq_false_iff_not, bne_iff_ne, beq_iff_eq, reduceCtorEq, bne_eq_false_iff_eq, beq_eq_false_iff_ne, Bool.not_eq_false', Int.not_le, Int.not_lt, Bool.not_not] at hc); (skip); (try (exfalso; first | contradiction | omega))))
    | (with_reducible refine AW_regionP 0 [0, 1] ?_)
    | (with_reducible refine AW_regionP 1 [1, 2] ?_)
    | (with_reducible refine AW_regionP 2 [1, 2, 5] ?_)
    | (with_reducible refine AW_regionP 3 [1, 2, 5, 6] ?_)
    | (with_reducible refine AW_regionP 4 [1, 2, 5, 6] ?_)
    | (with_reducible refine AW_regionP 5 [1, 2, 5, 6] ?_)
    | (with_reducible refine AW_regionP 6 [1, 2, 5, 6, 7] ?_)
    | (with_reducible refine AW_regionP 7 [1, 2, 5, 6, 7] ?_)
    | (with_reducible refine AW_regionP 8 [1, 2, 5, 6, 7] ?_)
    | (with_reducible refine AW_regionP 9 [5] ?_)
    | (refine callN_q (k := 34) fnok_34 (first_p n m D k (by omega) (by omega) (by omega)) ?_ ?_)
    | (refine callN_q (k := 34) fnok_34 (first_q n m D k (by omega) (by omega) hk1) ?_ ?_)
    | ((with_reducible refine AW_loopQ (c := (Code.seq (Code.seq (Code.region 3 _ _) _) _)) (ι := Nat) [1, 2] (fun q => [(5, .t (.one (.slc 1 0 (q * 64) 1))), (6, iA .i64 ((firstN n k + q : Nat) : Int))]) (fun q => [(1, rowV (bV (halfF n D k)) (q * 64))]) (fun q => q ≤ hlf n) (fun q => hlf n - q) 0 ?lg3 ?l13 ?l23 ?li3 ?lr3); (case' lg3 => rintro q _); (case' li3 => try (first | trivial | omega | (simp; done) | (simp; omega))); (case' lr3 => rintro q hq KR hR3; (have hmq := hmm (firstN n k + q)); simp only [keepE, hupd, hset, lk, if_true, if_false, Nat.reduceEqDiff, reduceIte, List.cons_append, List.nil_append, bytI, rowsI, lstC_row, maxLen, toNat3]))
    | ((with_reducible refine hR3 _ (q + 1) ?_); (try clear hR3 KR))
    | ((with_reducible refine AW_loopQ (c := (Code.seq (Code.seq (Code.region 6 _ _) _) _)) (ι := Nat) [1, 2, 6] (fun j => [(5, .t (.one (.slc 1 0 (q * 64 + j) 1))), (7, iA .i64 (j : Int))]) (fun j => [(1, rowV (bV (halfF n D k)) (q * 64 + j))]) (fun j => j ≤ 64) (fun j => 64 - j) 0 ?lg6 ?l16 ?l26 ?li6 ?lr6); (case' lg6 => rintro j _); (case' li6 => try (first | trivial | omega | (simp; done) | (simp; omega))); (case' lr6 => rintro j hj KR hR6; skip; simp only [keepE, hupd, hset, lk, if_true, if_false, Nat.reduceEqDiff, reduceIte, List.cons_append, List.nil_append, bytI, rowsI, lstC_row, maxLen, toNat3]))
    | ((with_reducible refine hR6 _ (j + 1) ?_); (try clear hR6 KR))
    | ((with_reducible refine Told.mk ?_); simp only [go_sem, reduceIte, reduceCtorEq, Nat.reduceAdd, Nat.reduceLT, Nat.reduceLeDiff, Nat.reduceEqDiff, Nat.reduceMul, Nat.reduceSub, Nat.reduceBEq, bytI, rowsI, lstC_row, maxLen, toNat3] <;> (first | exact True.intro | (((try simp (disch := omega) only [seaWrap, Int.natCast_add, Int.cast_ofNat_Int, and_true, true_and, and_self]); (repeat' (first | exact True.intro | omega | rfl | (with_reducible assumption) | (with_reducible refine And.intro ?_ ?_) | (exact all_succ (by assumption) (by assumption)) | (exact wkC_same _ _) | ((congr 1; omega)) | (exact wkC_eq (congrArg (rowV _) (by omega)) (rowV_iv _ _)))); done)) | (((try simp (disch := omega) only [seaWrap, Int.natCast_add, Int.cast_ofNat_Int, and_true, true_and, and_self]); (repeat' (first | exact True.intro | omega | rfl | (with_reducible assumption) | (with_reducible refine And.intro ?_ ?_) | (exact all_succ (by assumption) (by assumption)) | (exact wkC_same _ _) | (exact wkC_snoc' (congrArg _ (half_at (by omega)).symm)))); done)) | (refine Stuck.out ?_)))
    | ((fail_if_success (with_reducible show AW _ _ _ _)); simp (maxSteps := 2000000) only [go_sem, reduceIte, reduceCtorEq, Nat.reduceAdd, Nat.reduceLT, Nat.reduceLeDiff, Nat.reduceEqDiff, Nat.reduceMul, Nat.reduceSub, Nat.reduceBEq, Try.f38, ty_24, fnok_34, of_24_0, ty_22, sl_22, ar_22, ty_25, sl_25, ar_25, ty_5, zc_5, bytI, rowsI, lstC_row, maxLen, toNat3])
    | ((fail_if_success (with_reducible show AW _ _ _ _)); simp (disch := omega) only [seaWrap, seaDiv, seaMod])
    | ((with_reducible refine hK _ ?_); clear hK K)
    | (with_reducible apply_assumption -exfalso only [*]))
  all_goals ((intro i o hi ho; (try (obtain rfl : o = 0 := (by omega))); refine rowV_eqv' (F := bytI (halfF n D k)) (fun j hj => ?_) _ _ (by omega) (by omega); exact IV.eqv_refl _))

set_option maxRecDepth 100000 in
set_option maxHeartbeats 4000000 in
theorem open_b1 (n : Nat) (m : Nat → Nat) (D : Nat → Nat → Int) (hn : n ≤ 9223372036854775807) (hm : ∀ i, i < n → m i ≤ 9223372036854775807) (hs : sizedB n m = false) : CallsP Try.prog 35 [.agg [.lst 1 (n) (rowsI (m) (D))]] (.tup [.agg [.g (.int .i64 0), .g (.slice none 0 0), .g (.int .i64 0)], .one (.g (.slice none 0 0)), .one (.g (.bool false))]) := by
  refine CallsP_of Try.func35 rfl (by rw [Try.ntmps35]; simp) ?_
  simp only [Try.ntmps35, List.map_cons, List.map_nil, PT.tv, argEnv, Nat.zero_add, Nat.reduceAdd]
  repeat' (first
    | (with_reducible refine callDGK_f0 ?_)
    | (with_reducible refine callGK_f0 ?_)
    | (with_reducible refine AW_seq_k fun K hK => ?_)
    | ((first | (with_reducible refine And.intro ?_ ?_) | (with_reducible refine Need.mk ?_)); focus (first | exact True.intro | (with_reducible assumption) | omega | (refine ⟨?_, ?_⟩ <;> omega) | (intro _; first | exact True.intro | (with_reducible assumption) | omega) | (intros; (repeat' (first | exact True.intro | omega | (with_reducible assumption) | (with_reducible refine And.intro ?_ ?_))); done) | (simp (disch := omega) only [Bool.and_eq_true, Bool.or_eq_true, decide_eq_true_eq, bne_iff_ne, ne_eq] at *; first | done | omega | (intros; omega)) | (simp; done) | (simp; omega) | (simp +contextual; done) | (intro h; rw [h]; rfl) | (intros; simp_all; done)))
    | (with_reducible refine AW_skip ?_)
    | (with_reducible refine AW_exit ?_)
    | (with_reducible refine AW_ret ?_)
    | (with_reducible refine retK_n ?_)
    | (with_reducible refine retK_n' ?_)
    | (with_reducible refine retH_n rfl rfl rfl ?_)
    | (with_reducible refine retH_n' rfl rfl rfl ?_)
    | (with_reducible refine retO_n ?_ ?_)
    | (with_reducible refine retO_n' ?_ ?_)
    | (with_reducible refine AW_condI ?_)
    | (with_reducible refine AW_block ?_)
    | ((with_reducible refine condN_t ?_ ?_) <;> (intro hc; (try simp only [Bool.and_eq_true, Bool.or_eq_true, Bool.not_eq_true', Bool.and_eq_false_iff, Bool.or_eq_false_iff, decide_eq_true_eq, decide_eq_false_iff_not, bne_iff_ne, beq_iff_eq, reduceCtorEq, bne_eq_false_iff_eq, beq_eq_false_iff_ne, Bool.not_eq_false', Int.not_le, Int.not_lt, Bool.not_not] at hc); (skip); (try (exfalso; first | contradiction | omega))))
    | (with_reducible refine AW_regionP 0 [0] ?_)
    | (with_reducible refine AW_regionP 1 [1, 2] ?_)
    | (with_reducible refine AW_regionP 2 [2] ?_)
    | ((with_reducible refine AW_prune (c := Code.region 3 _ true) [1, 2] ?_); (with_reducible refine AW_regionD ?_ ?_ ?_ ?_); (focus kernel_rfl); (focus kernel_rfl); (focus kernel_rfl))
    | (with_reducible refine AW_regionP 4 [2, 5] ?_)
    | (with_reducible refine AW_regionP 5 [2, 5, 6, 7] ?_)
    | ((with_reducible refine And.intro ?_ ?_); focus ((with_reducible show chkR _ _ _ = true); kernel_rfl))
    | (refine callN_q (k := 52) fnok_52 (sized_p n m D (by omega) hm) ?_ ?_)
    | ((fail_if_success (with_reducible show AW _ _ _ _)); simp (maxSteps := 2000000) only [go_sem, reduceIte, reduceCtorEq, Nat.reduceAdd, Nat.reduceLT, Nat.reduceLeDiff, Nat.reduceEqDiff, Nat.reduceMul, Nat.reduceSub, Nat.reduceBEq, Try.f35, zc_55, ty_24, fnok_52, of_24_0, ty_22, sl_22, ar_22, ty_25, sl_25, ar_25, ty_5, fo_55, ty_55, in_3, fnok_47, fnok_53, bytI, rowsI, hs, decide_true, decide_false])
    | ((fail_if_success (with_reducible show AW _ _ _ _)); simp (disch := omega) only [seaWrap, seaDiv, seaMod])
    | ((with_reducible refine hK _ ?_); clear hK K))
  all_goals exact ⟨rfl, rfl, rfl⟩

set_option maxRecDepth 100000 in
set_option maxHeartbeats 4000000 in
theorem open_b2 (n : Nat) (m : Nat → Nat) (D : Nat → Nat → Int) (hs : Szd n m) (hD : BytD D) (hd : 1 < D 0 0) : CallsP Try.prog 35 [.agg [.lst 1 (n) (rowsI (m) (D))]] (.tup [.agg [.g (.int .i64 0), .g (.slice none 0 0), .g (.int .i64 0)], .one (.g (.slice none 0 0)), .one (.g (.bool false))]) := by
  have h3 := hs.h3
  have h64 := hs.h63
  have hm0 := hs.m 0 (by omega)
  have hm : ∀ i, i < n → m i ≤ 9223372036854775807 := fun i hi => by have := hs.m i hi; omega
  have hsz := hs.b
  have hd0 := hD 0 0
  have hd1 : (D 0 0 > 1) = True := eq_true hd
  refine CallsP_of Try.func35 rfl (by rw [Try.ntmps35]; simp) ?_
  simp only [Try.ntmps35, List.map_cons, List.map_nil, PT.tv, argEnv, Nat.zero_add, Nat.reduceAdd]
  repeat' (first
    | (with_reducible refine callDGK_f0 ?_)
    | (with_reducible refine callGK_f0 ?_)
    | (with_reducible refine AW_seq_k fun K hK => ?_)
    | ((first | (with_reducible refine And.intro ?_ ?_) | (with_reducible refine Need.mk ?_)); focus (first | exact True.intro | (with_reducible assumption) | omega | (refine ⟨?_, ?_⟩ <;> omega) | (intro _; first | exact True.intro | (with_reducible assumption) | omega) | (intros; (repeat' (first | exact True.intro | omega | (with_reducible assumption) | (with_reducible refine And.intro ?_ ?_))); done) | (simp (disch := omega) only [Bool.and_eq_true, Bool.or_eq_true, decide_eq_true_eq, bne_iff_ne, ne_eq] at *; first | done | omega | (intros; omega)) | (simp; done) | (simp; omega) | (simp +contextual; done) | (intro h; rw [h]; rfl) | (intros; simp_all; done)))
    | (with_reducible refine AW_skip ?_)
    | (with_reducible refine AW_exit ?_)
    | (with_reducible refine AW_ret ?_)
    | (with_reducible refine retK_n ?_)
    | (with_reducible refine retK_n' ?_)
    | (with_reducible refine retH_n rfl rfl rfl ?_)
    | (with_reducible refine retH_n' rfl rfl rfl ?_)
    | (with_reducible refine retO_n ?_ ?_)
    | (with_reducible refine retO_n' ?_ ?_)
    | (with_reducible refine AW_condI ?_)
    | (with_reducible refine AW_block ?_)
    | ((with_reducible refine condN_t ?_ ?_) <;> (intro hc; (try simp only [Bool.and_eq_true, Bool.or_eq_true, Bool.not_eq_true', Bool.and_eq_false_iff, Bool.or_eq_false_iff, decide_eq_true_eq, decide_eq_false_iff_not, bne_iff_ne, beq_iff_eq, reduceCtorEq, bne_eq_false_iff_eq, beq_eq_false_iff_ne, Bool.not_eq_false', Int.not_le, Int.not_lt, Bool.not_not] at hc); (skip); (try (exfalso; first | contradiction | omega))))
    | (with_reducible refine AW_regionP 0 [0] ?_)
    | (with_reducible refine AW_regionP 1 [1, 2] ?_)
    | (with_reducible refine AW_regionP 2 [2] ?_)
    | ((with_reducible refine AW_prune (c := Code.region 3 _ true) [1, 2] ?_); (with_reducible refine AW_regionD ?_ ?_ ?_ ?_); (focus kernel_rfl); (focus kernel_rfl); (focus kernel_rfl))
    | (with_reducible refine AW_regionP 4 [2, 5] ?_)
    | (with_reducible refine AW_regionP 5 [2, 5, 6, 7] ?_)
    | ((with_reducible refine And.intro ?_ ?_); focus ((with_reducible show chkR _ _ _ = true); kernel_rfl))
    | (refine callN_q (k := 52) fnok_52 (sized_p n m D (by omega) hm) ?_ ?_)
    | ((fail_if_success (with_reducible show AW _ _ _ _)); simp (maxSteps := 2000000) only [go_sem, reduceIte, reduceCtorEq, Nat.reduceAdd, Nat.reduceLT, Nat.reduceLeDiff, Nat.reduceEqDiff, Nat.reduceMul, Nat.reduceSub, Nat.reduceBEq, Try.f35, zc_55, ty_24, fnok_52, of_24_0, ty_22, sl_22, ar_22, ty_25, sl_25, ar_25, ty_5, fo_55, ty_55, in_3, fnok_47, fnok_53, bytI, rowsI, hsz, hm0, hd1, decide_true, decide_false])
    | ((fail_if_success (with_reducible show AW _ _ _ _)); simp (disch := omega) only [seaWrap, seaDiv, seaMod])
    | ((with_reducible refine hK _ ?_); clear hK K))
  all_goals exact ⟨rfl, rfl, rfl⟩

set_option maxRecDepth 100000 in
set_option maxHeartbeats 4000000 in
theorem rvalid_b1 (n : Nat) (m : Nat → Nat) (D : Nat → Nat → Int) (hn : n ≤ 9223372036854775807) (hm : ∀ i, i < n → m i ≤ 9223372036854775807) (hs : sizedB n m = false) : CallsP Try.prog 14 [.agg [.lst 1 (n) (rowsI (m) (D))]] (.t (.one (.g (.bool (false))))) := by
  refine CallsP_of Try.func14 rfl (by rw [Try.ntmps14]; simp) ?_
  simp only [Try.ntmps14, List.map_cons, List.map_nil, PT.tv, argEnv, Nat.zero_add, Nat.reduceAdd]
  repeat' (first
    | (with_reducible refine callDGK_f0 ?_)
    | (with_reducible refine callGK_f0 ?_)
    | (with_reducible refine AW_seq_k fun K hK => ?_)
    | ((first | (with_reducible refine And.intro ?_ ?_) | (with_reducible refine Need.mk ?_)); focus (first | exact True.intro | (with_reducible assumption) | omega | (refine ⟨?_, ?_⟩ <;> omega) | (intro _; first | exact True.intro | (with_reducible assumption) | omega) | (intros; (repeat' (first | exact True.intro | omega | (with_reducible assumption) | (with_reducible refine And.intro ?_ ?_))); done) | (simp (disch := omega) only [Bool.and_eq_true, Bool.or_eq_true, decide_eq_true_eq, bne_iff_ne, ne_eq] at *; first | done | omega | (intros; omega)) | (simp; done) | (simp; omega) | (simp +contextual; done) | (intro h; rw [h]; rfl) | (intros; simp_all; done)))
    | (with_reducible refine AW_skip ?_)
    | (with_reducible refine AW_exit ?_)
    | (with_reducible refine AW_ret ?_)
    | (with_reducible refine retK_n ?_)
    | (with_reducible refine retK_n' ?_)
    | (with_reducible refine retH_n rfl rfl rfl ?_)
    | (with_reducible refine retH_n' rfl rfl rfl ?_)
    | (with_reducible refine retO_n ?_ ?_)
    | (with_reducible refine retO_n' ?_ ?_)
    | (with_reducible refine AW_condI ?_)
    | (with_reducible refine AW_block ?_)
    | ((with_reducible refine condN_t ?_ ?_) <;> (intro hc; (try simp only [Bool.and_eq_true, Bool.or_eq_true, Bool.not_eq_true', Bool.and_eq_false_iff, Bool.or_eq_false_iff, decide_eq_true_eq, decide_eq_false_iff_not, bne_iff_ne, beq_iff_eq, reduceCtorEq, bne_eq_false_iff_eq, beq_eq_false_iff_ne, Bool.not_eq_false', Int.not_le, Int.not_lt, Bool.not_not] at hc); (skip); (try (exfalso; first | contradiction | omega))))
    | (with_reducible refine AW_regionP 0 [0] ?_)
    | (with_reducible refine AW_regionP 1 [1] ?_)
    | (with_reducible refine AW_regionP 2 [1, 3] ?_)
    | (with_reducible refine AW_regionP 3 [] ?_)
    | ((with_reducible refine AW_prune (c := Code.region 4 _ true) [1] ?_); (with_reducible refine AW_regionD ?_ ?_ ?_ ?_); (focus kernel_rfl); (focus kernel_rfl); (focus kernel_rfl))
    | (with_reducible refine AW_regionP 5 [6] ?_)
    | ((with_reducible refine And.intro ?_ ?_); focus ((with_reducible show chkR _ _ _ = true); kernel_rfl))
    | (refine callN_q (k := 36) fnok_36 (rsized_p n m D (by omega) hm) ?_ ?_)
    | ((fail_if_success (with_reducible show AW _ _ _ _)); simp (maxSteps := 2000000) only [go_sem, reduceIte, reduceCtorEq, Nat.reduceAdd, Nat.reduceLT, Nat.reduceLeDiff, Nat.reduceEqDiff, Nat.reduceMul, Nat.reduceSub, Nat.reduceBEq, Try.f14, ty_24, fnok_36, of_24_0, ty_22, sl_22, ar_22, ty_25, sl_25, ar_25, ty_5, in_3, fnok_38, fnok_37, bytI, rowsI, hs, decide_true, decide_false])
    | ((fail_if_success (with_reducible show AW _ _ _ _)); simp (disch := omega) only [seaWrap, seaDiv, seaMod])
    | ((with_reducible refine hK _ ?_); clear hK K))

set_option maxRecDepth 100000 in
set_option maxHeartbeats 4000000 in
theorem rvalid_b2 (n : Nat) (m : Nat → Nat) (D : Nat → Nat → Int) (hs : Szd n m) (hD : BytD D) (hd : 1 < D 0 0) : CallsP Try.prog 14 [.agg [.lst 1 (n) (rowsI (m) (D))]] (.t (.one (.g (.bool (false))))) := by
  have h3 := hs.h3
  have h64 := hs.h63
  have hm0 := hs.m 0 (by omega)
  have hm : ∀ i, i < n → m i ≤ 9223372036854775807 := fun i hi => by have := hs.m i hi; omega
  have hsz := hs.b
  have hd0 := hD 0 0
  have hd1 : (D 0 0 > 1) = True := eq_true hd
  refine CallsP_of Try.func14 rfl (by rw [Try.ntmps14]; simp) ?_
  simp only [Try.ntmps14, List.map_cons, List.map_nil, PT.tv, argEnv, Nat.zero_add, Nat.reduceAdd]
  repeat' (first
    | (with_reducible refine callDGK_f0 ?_)
    | (with_reducible refine callGK_f0 ?_)
    | (with_reducible refine AW_seq_k fun K hK => ?_)
    | ((first | (with_reducible refine And.intro ?_ ?_) | (with_reducible refine Need.mk ?_)); focus (first | exact True.intro | (with_reducible assumption) | omega | (refine ⟨?_, ?_⟩ <;> omega) | (intro _; first | exact True.intro | (with_reducible assumption) | omega) | (intros; (repeat' (first | exact True.intro | omega | (with_reducible assumption) | (with_reducible refine And.intro ?_ ?_))); done) | (simp (disch := omega) only [Bool.and_eq_true, Bool.or_eq_true, decide_eq_true_eq, bne_iff_ne, ne_eq] at *; first | done | omega | (intros; omega)) | (simp; done) | (simp; omega) | (simp +contextual; done) | (intro h; rw [h]; rfl) | (intros; simp_all; done)))
    | (with_reducible refine AW_skip ?_)
    | (with_reducible refine AW_exit ?_)
    | (with_reducible refine AW_ret ?_)
    | (with_reducible refine retK_n ?_)
    | (with_reducible refine retK_n' ?_)
    | (with_reducible refine retH_n rfl rfl rfl ?_)
    | (with_reducible refine retH_n' rfl rfl rfl ?_)
    | (with_reducible refine retO_n ?_ ?_)
    | (with_reducible refine retO_n' ?_ ?_)
    | (with_reducible refine AW_condI ?_)
    | (with_reducible refine AW_block ?_)
    | ((with_reducible refine condN_t ?_ ?_) <;> (intro hc; (try simp only [Bool.and_eq_true, Bool.or_eq_true, Bool.not_eq_true', Bool.and_eq_false_iff, Bool.or_eq_false_iff, decide_eq_true_eq, decide_eq_false_iff_not, bne_iff_ne, beq_iff_eq, reduceCtorEq, bne_eq_false_iff_eq, beq_eq_false_iff_ne, Bool.not_eq_false', Int.not_le, Int.not_lt, Bool.not_not] at hc); (skip); (try (exfalso; first | contradiction | omega))))
    | (with_reducible refine AW_regionP 0 [0] ?_)
    | (with_reducible refine AW_regionP 1 [1] ?_)
    | (with_reducible refine AW_regionP 2 [1, 3] ?_)
    | (with_reducible refine AW_regionP 3 [] ?_)
    | ((with_reducible refine AW_prune (c := Code.region 4 _ true) [1] ?_); (with_reducible refine AW_regionD ?_ ?_ ?_ ?_); (focus kernel_rfl); (focus kernel_rfl); (focus kernel_rfl))
    | (with_reducible refine AW_regionP 5 [6] ?_)
    | ((with_reducible refine And.intro ?_ ?_); focus ((with_reducible show chkR _ _ _ = true); kernel_rfl))
    | (refine callN_q (k := 36) fnok_36 (rsized_p n m D (by omega) hm) ?_ ?_)
    | ((fail_if_success (with_reducible show AW _ _ _ _)); simp (maxSteps := 2000000) only [go_sem, reduceIte, reduceCtorEq, Nat.reduceAdd, Nat.reduceLT, Nat.reduceLeDiff, Nat.reduceEqDiff, Nat.reduceMul, Nat.reduceSub, Nat.reduceBEq, Try.f14, ty_24, fnok_36, of_24_0, ty_22, sl_22, ar_22, ty_25, sl_25, ar_25, ty_5, in_3, fnok_38, fnok_37, bytI, rowsI, hsz, hm0, hd1, decide_true, decide_false])
    | ((fail_if_success (with_reducible show AW _ _ _ _)); simp (disch := omega) only [seaWrap, seaDiv, seaMod])
    | ((with_reducible refine hK _ ?_); clear hK K))

set_option maxRecDepth 100000 in
set_option maxHeartbeats 4000000 in
theorem rvalid_ok (n : Nat) (m : Nat → Nat) (D : Nat → Nat → Int) (hs : Szd n m) (hD : BytD D) (k : Nat) (hk1 : k ≤ 1) (hk : D 0 0 = (k : Int)) : CallsP Try.prog 14 [.agg [.lst 1 (n) (rowsI (m) (D))]] (.t (.one (.g (.bool (okP (halfF n D k) (hlf n * 64)))))) := by
  have h3 := hs.h3
  have h64 := hs.h63
  have hl := hs.hlf
  have hm0 := hs.m 0 (by omega)
  have hm : ∀ i, i < n → m i ≤ 9223372036854775807 := fun i hi => by have := hs.m i hi; omega
  have hsz := hs.b
  have hd0 := hD 0 0
  have hd1 : ((k : Int) > 1) = False := eq_false (by omega)
  refine CallsP_of Try.func14 rfl (by rw [Try.ntmps14]; simp) ?_
  simp only [Try.ntmps14, List.map_cons, List.map_nil, PT.tv, argEnv, Nat.zero_add, Nat.reduceAdd]
  repeat' (first
    | (with_reducible refine callDGK_f0 ?_)
    | (with_reducible refine callGK_f0 ?_)
    | (with_reducible refine AW_seq_k fun K hK => ?_)
    | ((first | (with_reducible refine And.intro ?_ ?_) | (with_reducible refine Need.mk ?_)); focus (first | exact True.intro | (with_reducible assumption) | omega | (refine ⟨?_, ?_⟩ <;> omega) | (intro _; first | exact True.intro | (with_reducible assumption) | omega) | (intros; (repeat' (first | exact True.intro | omega | (with_reducible assumption) | (with_reducible refine And.intro ?_ ?_))); done) | (simp (disch := omega) only [Bool.and_eq_true, Bool.or_eq_true, decide_eq_true_eq, bne_iff_ne, ne_eq] at *; first | done | omega | (intros; omega)) | (simp; done) | (simp; omega) | (simp +contextual; done) | (intro h; rw [h]; rfl) | (intros; simp_all; done)))
    | (with_reducible refine AW_skip ?_)
    | (with_reducible refine AW_exit ?_)
    | (with_reducible refine AW_ret ?_)
    | (with_reducible refine retK_n ?_)
    | (with_reducible refine retK_n' ?_)
    | (with_reducible refine retH_n rfl rfl rfl ?_)
    | (with_reducible refine retH_n' rfl rfl rfl ?_)
    | (with_reducible refine retO_n ?_ ?_)
    | (with_reducible refine retO_n' ?_ ?_)
    | (with_reducible refine AW_condI ?_)
    | (with_reducible refine AW_block ?_)
    | ((with_reducible refine condN_t ?_ ?_) <;> (intro hc; (try simp only [Bool.and_eq_true, Bool.or_eq_true, Bool.not_eq_true', Bool.and_eq_false_iff, Bool.or_eq_false_iff, decide_eq_true_eq, decide_eq_false_iff_not, bne_iff_ne, beq_iff_eq, reduceCtorEq, bne_eq_false_iff_eq, beq_eq_false_iff_ne, Bool.not_eq_false', Int.not_le, Int.not_lt, Bool.not_not] at hc); (skip); (try (exfalso; first | contradiction | omega))))
    | (with_reducible refine AW_regionP 0 [0] ?_)
    | (with_reducible refine AW_regionP 1 [1] ?_)
    | (with_reducible refine AW_regionP 2 [1, 3] ?_)
    | (with_reducible refine AW_regionP 3 [] ?_)
    | ((with_reducible refine AW_prune (c := Code.region 4 _ true) [1] ?_); (with_reducible refine AW_regionD ?_ ?_ ?_ ?_); (focus kernel_rfl); (focus kernel_rfl); (focus kernel_rfl))
    | (with_reducible refine AW_regionP 5 [6] ?_)
    | ((with_reducible refine And.intro ?_ ?_); focus ((with_reducible show chkR _ _ _ = true); kernel_rfl))
    | (refine callN_q (k := 36) fnok_36 (rsized_p n m D (by omega) hm) ?_ ?_)
    | (refine callDN_q (k := 38) fnok_38 (half_p n m D hs k hk1) ?_ ?_)
    | (refine callDN_q (k := 37) fnok_37 (rparse_p (hlf n * 64) (halfF n D k) (by omega) (hD.half n k)) ?_ ?_)
    | ((fail_if_success (with_reducible show AW _ _ _ _)); simp (maxSteps := 2000000) only [go_sem, reduceIte, reduceCtorEq, Nat.reduceAdd, Nat.reduceLT, Nat.reduceLeDiff, Nat.reduceEqDiff, Nat.reduceMul, Nat.reduceSub, Nat.reduceBEq, Try.f14, ty_24, fnok_36, of_24_0, ty_22, sl_22, ar_22, ty_25, sl_25, ar_25, ty_5, in_3, fnok_38, fnok_37, bytI, rowsI, hsz, hm0, hk, hd1, decide_true, decide_false])
    | ((fail_if_success (with_reducible show AW _ _ _ _)); simp (disch := omega) only [seaWrap, seaDiv, seaMod])
    | ((with_reducible refine hK _ ?_); clear hK K))

set_option maxRecDepth 100000 in
set_option maxHeartbeats 4000000 in
theorem valid_b1 (n : Nat) (m : Nat → Nat) (D : Nat → Nat → Int) (hn : n ≤ 9223372036854775807) (hm : ∀ i, i < n → m i ≤ 9223372036854775807) (hs : sizedB n m = false) : CallsP Try.prog 13 [.agg [.lst 1 (n) (rowsI (m) (D))]] (.t (.one (.g (.bool (false))))) := by
  refine CallsP_of Try.func13 rfl (by rw [Try.ntmps13]; simp) ?_
  simp only [Try.ntmps13, List.map_cons, List.map_nil, PT.tv, argEnv, Nat.zero_add, Nat.reduceAdd]
  repeat' (first
    | (with_reducible refine AW_seq_k fun K hK => ?_)
    | ((first | (with_reducible refine And.intro ?_ ?_) | (with_reducible refine Need.mk ?_)); focus (first | exact True.intro | (with_reducible assumption) | omega | (refine ⟨?_, ?_⟩ <;> omega) | (intro _; first | exact True.intro | (with_reducible assumption) | omega) | (intros; (repeat' (first | exact True.intro | omega | (with_reducible assumption) | (with_reducible refine And.intro ?_ ?_))); done) | (simp (disch := omega) only [Bool.and_eq_true, Bool.or_eq_true, decide_eq_true_eq, bne_iff_ne, ne_eq] at *; first | done | omega | (intros; omega)) | (simp; done) | (simp; omega) | (simp +contextual; done) | (intro h; rw [h]; rfl) | (intros; simp_all; done)))
    | (with_reducible refine AW_skip ?_)
    | (with_reducible refine AW_exit ?_)
    | (with_reducible refine AW_ret ?_)
    | (with_reducible refine retK_n ?_)
    | (with_reducible refine retK_n' ?_)
    | (with_reducible refine retH_n rfl rfl rfl ?_)
    | (with_reducible refine retH_n' rfl rfl rfl ?_)
    | (with_reducible refine retO_n ?_ ?_)
    | (with_reducible refine retO_n' ?_ ?_)
    | (with_reducible refine AW_condI ?_)
    | (with_reducible refine AW_block ?_)
    | ((with_reducible refine condN_t ?_ ?_) <;> (intro hc; (try simp only [Bool.and_eq_true, Bool.or_eq_true, Bool.not_eq_true', Bool.and_eq_false_iff, Bool.or_eq_false_iff, decide_eq_true_eq, decide_eq_false_iff_not, bne_iff_ne, beq_iff_eq, reduceCtorEq, bne_eq_false_iff_eq, beq_eq_false_iff_ne, Bool.not_eq_false', Int.not_le, Int.not_lt, Bool.not_not] at hc); (skip); (try (exfalso; first | contradiction | omega))))
    | (with_reducible refine AW_regionP 0 [0] ?_)
    | (with_reducible refine AW_regionP 1 [1] ?_)
    | (with_reducible refine AW_regionP 2 [5] ?_)
    | (refine callN_q (k := 35) fnok_35 (open_b1 n m D hn hm hs) ?_ ?_)
    | ((fail_if_success (with_reducible show AW _ _ _ _)); simp (maxSteps := 2000000) only [go_sem, reduceIte, reduceCtorEq, Nat.reduceAdd, Nat.reduceLT, Nat.reduceLeDiff, Nat.reduceEqDiff, Nat.reduceMul, Nat.reduceSub, Nat.reduceBEq, Try.f13, ty_24, fnok_35, zc_55, ty_55, bytI, rowsI])
    | ((with_reducible refine hK _ ?_); clear hK K))

set_option maxRecDepth 100000 in
set_option maxHeartbeats 4000000 in
theorem valid_b2 (n : Nat) (m : Nat → Nat) (D : Nat → Nat → Int) (hs : Szd n m) (hD : BytD D) (hd : 1 < D 0 0) : CallsP Try.prog 13 [.agg [.lst 1 (n) (rowsI (m) (D))]] (.t (.one (.g (.bool (false))))) := by
  refine CallsP_of Try.func13 rfl (by rw [Try.ntmps13]; simp) ?_
  simp only [Try.ntmps13, List.map_cons, List.map_nil, PT.tv, argEnv, Nat.zero_add, Nat.reduceAdd]
  repeat' (first
    | (with_reducible refine AW_seq_k fun K hK => ?_)
    | ((first | (with_reducible refine And.intro ?_ ?_) | (with_reducible refine Need.mk ?_)); focus (first | exact True.intro | (with_reducible assumption) | omega | (refine ⟨?_, ?_⟩ <;> omega) | (intro _; first | exact True.intro | (with_reducible assumption) | omega) | (intros; (repeat' (first | exact True.intro | omega | (with_reducible assumption) | (with_reducible refine And.intro ?_ ?_))); done) | (simp (disch := omega) only [Bool.and_eq_true, Bool.or_eq_true, decide_eq_true_eq, bne_iff_ne, ne_eq] at *; first | done | omega | (intros; omega)) | (simp; done) | (simp; omega) | (simp +contextual; done) | (intro h; rw [h]; rfl) | (intros; simp_all; done)))
    | (with_reducible refine AW_skip ?_)
    | (with_reducible refine AW_exit ?_)
    | (with_reducible refine AW_ret ?_)
    | (with_reducible refine retK_n ?_)
    | (with_reducible refine retK_n' ?_)
    | (with_reducible refine retH_n rfl rfl rfl ?_)
    | (with_reducible refine retH_n' rfl rfl rfl ?_)
    | (with_reducible refine retO_n ?_ ?_)
    | (with_reducible refine retO_n' ?_ ?_)
    | (with_reducible refine AW_condI ?_)
    | (with_reducible refine AW_block ?_)
    | ((with_reducible refine condN_t ?_ ?_) <;> (intro hc; (try simp only [Bool.and_eq_true, Bool.or_eq_true, Bool.not_eq_true', Bool.and_eq_false_iff, Bool.or_eq_false_iff, decide_eq_true_eq, decide_eq_false_iff_not, bne_iff_ne, beq_iff_eq, reduceCtorEq, bne_eq_false_iff_eq, beq_eq_false_iff_ne, Bool.not_eq_false', Int.not_le, Int.not_lt, Bool.not_not] at hc); (skip); (try (exfalso; first | contradiction | omega))))
    | (with_reducible refine AW_regionP 0 [0] ?_)
    | (with_reducible refine AW_regionP 1 [1] ?_)
    | (with_reducible refine AW_regionP 2 [5] ?_)
    | (refine callN_q (k := 35) fnok_35 (open_b2 n m D hs hD hd) ?_ ?_)
    | ((fail_if_success (with_reducible show AW _ _ _ _)); simp (maxSteps := 2000000) only [go_sem, reduceIte, reduceCtorEq, Nat.reduceAdd, Nat.reduceLT, Nat.reduceLeDiff, Nat.reduceEqDiff, Nat.reduceMul, Nat.reduceSub, Nat.reduceBEq, Try.f13, ty_24, fnok_35, zc_55, ty_55, bytI, rowsI])
    | ((with_reducible refine hK _ ?_); clear hK K))

set_option maxRecDepth 100000 in
set_option maxHeartbeats 4000000 in
theorem valid_ok (n : Nat) (m : Nat → Nat) (D : Nat → Nat → Int) (hs : Szd n m) (hD : BytD D) (k : Nat) (hk1 : k ≤ 1) (hk : D 0 0 = (k : Int)) : CallsP Try.prog 13 [.agg [.lst 1 (n) (rowsI (m) (D))]] (.t (.one (.g (.bool (okP (halfF n D k) (hlf n * 64)))))) := by
  refine CallsP_of Try.func13 rfl (by rw [Try.ntmps13]; simp) ?_
  simp only [Try.ntmps13, List.map_cons, List.map_nil, PT.tv, argEnv, Nat.zero_add, Nat.reduceAdd]
  repeat' (first
    | (with_reducible refine AW_seq_k fun K hK => ?_)
    | ((first | (with_reducible refine And.intro ?_ ?_) | (with_reducible refine Need.mk ?_)); focus (first | exact True.intro | (with_reducible assumption) | omega | (refine ⟨?_, ?_⟩ <;> omega) | (intro _; first | exact True.intro | (with_reducible assumption) | omega) | (intros; (repeat' (first | exact True.intro | omega | (with_reducible assumption) | (with_reducible refine And.intro ?_ ?_))); done) | (simp (disch := omega) only [Bool.and_eq_true, Bool.or_eq_true, decide_eq_true_eq, bne_iff_ne, ne_eq] at *; first | done | omega | (intros; omega)) | (simp; done) | (simp; omega) | (simp +contextual; done) | (intro h; rw [h]; rfl) | (intros; simp_all; done)))
    | (with_reducible refine AW_skip ?_)
    | (with_reducible refine AW_exit ?_)
    | (with_reducible refine AW_ret ?_)
    | (with_reducible refine retK_n ?_)
    | (with_reducible refine retK_n' ?_)
    | (with_reducible refine retH_n rfl rfl rfl ?_)
    | (with_reducible refine retH_n' rfl rfl rfl ?_)
    | (with_reducible refine retO_n ?_ ?_)
    | (with_reducible refine retO_n' ?_ ?_)
    | (with_reducible refine AW_condI ?_)
    | (with_reducible refine AW_block ?_)
    | ((with_reducible refine condN_t ?_ ?_) <;> (intro hc; (try simp only [Bool.and_eq_true, Bool.or_eq_true, Bool.not_eq_true', Bool.and_eq_false_iff, Bool.or_eq_false_iff, decide_eq_true_eq, decide_eq_false_iff_not, bne_iff_ne, beq_iff_eq, reduceCtorEq, bne_eq_false_iff_eq, beq_eq_false_iff_ne, Bool.not_eq_false', Int.not_le, Int.not_lt, Bool.not_not] at hc); (skip); (try (exfalso; first | contradiction | omega))))
    | (with_reducible refine AW_regionP 0 [0] ?_)
    | (with_reducible refine AW_regionP 1 [1] ?_)
    | (with_reducible refine AW_regionP 2 [5] ?_)
    | (refine callN_q (k := 35) fnok_35 (open_ok n m D hs hD k hk1 hk) ?_ ?_)
    | ((fail_if_success (with_reducible show AW _ _ _ _)); simp (maxSteps := 2000000) only [go_sem, reduceIte, reduceCtorEq, Nat.reduceAdd, Nat.reduceLT, Nat.reduceLeDiff, Nat.reduceEqDiff, Nat.reduceMul, Nat.reduceSub, Nat.reduceBEq, Try.f13, ty_24, fnok_35, zc_55, ty_55, bytI, rowsI])
    | ((with_reducible refine hK _ ?_); clear hK K))

theorem valid_p (n : Nat) (m : Nat → Nat) (D : Nat → Nat → Int) (hn : n ≤ 9223372036854775807) (hm : ∀ i, i < n → m i ≤ 9223372036854775807) (hD : BytD D) : CallsP Try.prog 13 [.agg [.lst 1 (n) (rowsI (m) (D))]] (.t (.one (.g (.bool (vB n m D))))) := by
  rcases disk_cases n m D hD with hs | ⟨hs, hd⟩ | ⟨k, hs, hk1, hk⟩
  · rw [vB_no1 hs]; exact valid_b1 n m D hn hm hs
  · rw [vB_no2 hd]; exact valid_b2 n m D hs hD hd
  · rw [vB_ok hs hk1 hk]; exact valid_ok n m D hs hD k hk1 hk

theorem rvalid_p (n : Nat) (m : Nat → Nat) (D : Nat → Nat → Int) (hn : n ≤ 9223372036854775807) (hm : ∀ i, i < n → m i ≤ 9223372036854775807) (hD : BytD D) : CallsP Try.prog 14 [.agg [.lst 1 (n) (rowsI (m) (D))]] (.t (.one (.g (.bool (vB n m D))))) := by
  rcases disk_cases n m D hD with hs | ⟨hs, hd⟩ | ⟨k, hs, hk1, hk⟩
  · rw [vB_no1 hs]; exact rvalid_b1 n m D hn hm hs
  · rw [vB_no2 hd]; exact rvalid_b2 n m D hs hD hd
  · rw [vB_ok hs hk1 hk]; exact rvalid_ok n m D hs hD k hk1 hk

end Go.Proofs.Ytifoncmlelinjaa
