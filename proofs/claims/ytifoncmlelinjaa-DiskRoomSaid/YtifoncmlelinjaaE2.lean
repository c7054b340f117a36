/- E2: walks on abstract states. -/
import Derived.Test.YtifoncmlelinjaaE
set_option linter.unusedVariables false
set_option linter.unusedSimpArgs false
namespace Go.Proofs.Ytifoncmlelinjaa
open Go.RowKit Go.Sea
attribute [local go_sem] callK_N gf gk gdrop lkL setL lsF ltAll rdyL bodyF roundQ roundS loopQ loopS jumpOf inLs yV yA bAV zipPut purgeG List.tail_cons Option.isNone_none Option.isNone_some callGK_f callDK_f callDGK_f retN retHN blockA arun_nil arun_plain arun_guard plainF guardF guardB arunD_nil arunD_plain arunD_guard plainDF guardDF guardDB AS.ent Eff.noApp Eff.tgt ftF AV.refs TV.refs CV.refs LV.refs Op.operands Call.operands List.append_toArray List.push_toArray List.flatMap_cons List.flatMap_nil List.toList_toArray Option.toArray nidF nidA List.reverse_cons List.reverse_nil opF AS.ev constA lk AS.get AV.tv AV.nd AS.eff AS.put argEnv PT.tv PV.av AV.mbOf hset hget TV.cells dstOk thenA gB isB toB TV.bool? TV.int? intF loadF storeF fieldF indexF lenF sliceF optI appF minmaxF ipCells fillF partsF lvsF TV.lv LV.tv purgeE purgeC purgeH AV.purge CV.purge AV.has TV.has CV.has LV.has calleeF argsF tvsF toPT toIV toIVs toPTs toPV iA bA List.map_cons List.map_nil List.length_nil List.length_cons List.getElem?_cons_zero List.getElem?_cons_succ List.getElem?_nil Option.getD_some Option.getD_none Option.bind_some Option.bind_none List.take_succ_cons List.take_zero List.drop_succ_cons List.drop_zero List.take_nil List.drop_nil List.cons_append List.nil_append List.append_nil List.getD_cons_zero List.getD_cons_succ Option.map_some Option.map_none Option.isSome_some Option.isSome_none List.size_toArray List.any_cons List.any_nil List.mem_cons if_true if_false ite_true ite_false cond_true cond_false Nat.zero_add Nat.add_zero Nat.sub_zero Nat.le_refl Nat.zero_mul Nat.mul_zero Nat.one_mul Nat.mul_one Int.toNat_zero Int.toNat_natCast Bool.or_false Bool.false_or Bool.or_true Bool.true_or Bool.and_true Bool.true_and Bool.and_false Bool.false_and beq_self_eq_true beq_true beq_false Bool.not_true Bool.not_false and_true true_and and_false false_and and_self imp_self Bool.cond_false_right Bool.cond_true_left implies_true forall_const true_implies false_implies Option.some.injEq Prod.mk.injEq ne_eq not_false_eq_true not_true_eq_false eq_self Nat.lt_irrefl Nat.not_lt_zero op2F ncF slice3F offF slArrF copyF clearF toArrF callDK_t calleeT eqN barOp boF seaMin seaMax seaNat1 seaNat2 Value.bool.injEq Value.int.injEq srcF lstC TV.dp IV.eqv PT.eqv PV.eqv All2 keepE hupd callZ_N AS.frz AS.frzW frzs frzsOk frzOk frzE frzA frzT frzC frzG frzH hdel cmpS eqF eqC gvs eqVs eqV decide_true resF tupA inlQ okL okGL okG nextL wkH wkC wkV nilA nilC AV.ok TV.ok CV.ok LV.ok okB forall_eq_or_imp forall_eq List.not_mem_nil List.mem_singleton true_or or_true or_false false_or or_self exists_prop AV.t.injEq TV.one.injEq CV.iv.injEq IV.g.injEq TV.agg.injEq List.cons.injEq repC_0 repC_1 repC_2 repC_3 rowV_len rowV_pur rowV_has rowV_frz frzC isIv_iv civ_iv rowV_all List.map_append retON AV.to TV.to CV.to


theorem rd_cases (b : Nat → Int) (L p : Nat) (hL : L ≤ 100000) (hp : p ≤ L) :
    (p + 3 ≤ L ∧ (((p : Int) < (L : Int)) = True ∧ ((p : Int) == (L : Int)) = false ∧ (rowV (bV b) L).getD p .any = .iv (.g (.int .u8 (b p))) ∧ (rowV (bV b) L).getD (p + 1) .any = .iv (.g (.int .u8 (b (p + 1)))) ∧ (rowV (bV b) L).getD (p + 2) .any = .iv (.g (.int .u8 (b (p + 2)))) ∧ IntKind.i64.wrap ((p : Int) + 1) = (p : Int) + 1 ∧ IntKind.i64.wrap ((p : Int) + 2) = (p : Int) + 2)) ∨
    ((p < L ∧ L < p + 3) ∧ (((p : Int) < (L : Int)) = True ∧ ((p : Int) == (L : Int)) = false ∧ (rowV (bV b) L).getD p .any = .iv (.g (.int .u8 (b p))))) ∨
    (p = L ∧ (((p : Int) < (L : Int)) = False ∧ ((p : Int) == (L : Int)) = true ∧ (rowV (bV b) L).getD p .any = .any)) := by
  rcases Nat.lt_or_ge p L with h | h
  · by_cases h3 : p + 3 ≤ L
    · exact Or.inl ⟨h3, eq_true (by omega), beq_eq_false_iff_ne.2 (by omega), rowV_get h, rowV_get (by omega), rowV_get (by omega), seaWrap (by omega) (by omega), seaWrap (by omega) (by omega)⟩
    · exact Or.inr (Or.inl ⟨⟨h, by omega⟩, eq_true (by omega), beq_eq_false_iff_ne.2 (by omega), rowV_get h⟩)
  · exact Or.inr (Or.inr ⟨by omega, eq_false (by omega), beq_iff_eq.2 (by omega), rowV_out h⟩)

set_option maxRecDepth 100000 in
set_option maxHeartbeats 4000000 in
theorem open_n (n : Nat) (m : Nat → Nat) (D : Nat → Nat → Int) (hs : Szd n m) (hD : BytD D) (k : Nat) (hk1 : k ≤ 1) (hk : D 0 0 = (k : Int)) (hok : okP (halfF n D k) (hlf n * 64) = true) : CallsN Try.prog 35 (List.map PT.tv [.agg [.lst 1 (n) (rowsI (m) (D))]]) (rowV (bV (halfF n D k)) (hlf n * 64)) (fun i => .tup [.agg [.iv (.g (.int .i64 (firstN n k : Int))), .slc i 0 (hlf n * 64) 1, .iv (.g (.int .i64 (endP (halfF n D k) (hlf n * 64) : Int)))], .one .any, .one (.iv (.g (.bool true)))]) := by
  have hz : True := trivial
  have hy : True := trivial
  have hL : hlf n * 64 ≤ 100000 := by have := hs.hlf; omega
  have h3 := hs.h3
  have h64 := hs.h63
  have hB := hD.half n k
  have hd0 := hD 0 0
  have hsz := hs.b
  have hm0 := hs.m 0 (by omega)
  generalize hbb : halfF n D k = b at *
  generalize hLL : hlf n * 64 = L at *
  refine CallsN_of (args := [.agg [.lst 1 (n) (rowsI (m) (D))]]) 10 Try.func35 rfl (by rw [Try.ntmps35]; simp) (rowV_iv _ _) (by intro h; have := hs.hlf; have := congrArg List.length h; simp [rowV] at this; omega) ?_
  simp only [Try.ntmps35, List.map_cons, List.map_nil, PT.tv, argEnv, Nat.zero_add, Nat.reduceAdd]
  repeat' (first
    | (refine callK_shr rfl rfl (by omega) ?_)
    | (refine callK_shl rfl rfl (by omega) ?_)
    | (refine callDK_shl rfl rfl (by omega) ?_)
    | (with_reducible refine callDGK_f0 ?_)
    | (with_reducible refine callGK_f0 ?_)
    | (with_reducible refine AW_seq_k fun K hK => ?_)
    | ((first | (with_reducible refine And.intro ?_ ?_) | (with_reducible refine Need.mk ?_)); focus (first | exact True.intro | (with_reducible assumption) | omega | (refine ⟨?_, ?_⟩ <;> omega) | (intro _; first | exact True.intro | (with_reducible assumption) | omega) | (intros; (repeat' (first | exact True.intro | omega | (with_reducible assumption) | (with_reducible refine And.intro ?_ ?_))); done) | (simp (disch := omega) only [Bool.and_eq_true, Bool.or_eq_true, decide_eq_true_eq, bne_iff_ne, ne_eq] at *; first | done | omega | (intros; omega)) | (simp; done) | (simp; omega) | (simp +contextual; done) | (intro h; rw [h]; rfl) | (intros; simp_all; done)))
    | (with_reducible refine AW_skip ?_)
    | (with_reducible refine AW_exit ?_)
    | (with_reducible refine AW_ret ?_)
    | (with_reducible refine retK_n ?_)
    | (with_reducible refine retK_n' ?_)
    | (with_reducible refine retH_n rfl rfl rfl ?_)
    | (with_reducible refine retH_n' rfl rfl rfl ?_)
    | (with_reducible refine retO_n ?_ ?_)
    | (with_reducible refine retO_n' ?_ ?_)
    | (with_reducible refine AW_condI ?_)
    | (with_reducible refine AW_block ?_)
    | ((with_reducible refine condN_t ?_ ?_) <;> (intro hc; (try simp only [Bool.and_eq_true, Bool.or_eq_true, Bool.not_eq_true', Bool.and_eq_false_iff, Bool.or_eq_false_iff, decide_eq_true_eq, decide_eq_false_iff_not, bne_iff_ne, beq_iff_eq, reduceCtorEq, bne_eq_false_iff_eq, beq_eq_false_iff_ne, Bool.not_eq_false', Int.not_le, Int.not_lt, Bool.not_not] at hc); (skip); (try (exfalso; first | contradiction | omega))))
    | (with_reducible refine AW_regionP 0 [0] ?_)
    | (with_reducible refine AW_regionP 1 [0, 1, 2] ?_)
    | (with_reducible refine AW_regionP 2 [0, 2, 4] ?_)
    | (with_reducible refine AW_regionP 3 [0, 4, 5] ?_)
    | ((with_reducible refine AW_prune (c := Code.region 3 _ true) [1, 2] ?_); (with_reducible refine AW_regionD ?_ ?_ ?_ ?_); (focus kernel_rfl); (focus kernel_rfl); (focus kernel_rfl))
    | (with_reducible refine AW_regionP 4 [0, 2, 4, 5] ?_)
    | (with_reducible refine AW_regionP 5 [0, 2, 4, 5, 6, 7] ?_)
    | (with_reducible refine AW_regionP 6 [0, 4, 5, 6] ?_)
    | (with_reducible refine AW_regionP 7 [] ?_)
    | ((with_reducible refine AW_prune (c := Code.region 8 _ true) [0, 4, 5, 6] ?_); (with_reducible refine AW_regionD ?_ ?_ ?_ ?_); (focus kernel_rfl); (focus kernel_rfl); (focus kernel_rfl))
    | (with_reducible refine AW_regionP 9 [0, 4, 5, 6, 7] ?_)
    | (with_reducible refine AW_regionP 10 [] ?_)
    | (with_reducible refine AW_regionP 11 [0, 4, 5, 6, 7] ?_)
    | (with_reducible refine AW_regionP 12 [0, 4, 5, 7] ?_)
    | ((with_reducible refine AW_prune (c := Code.region 13 _ true) [0, 4, 5] ?_); (with_reducible refine AW_regionD ?_ ?_ ?_ ?_); (focus kernel_rfl); (focus kernel_rfl); (focus kernel_rfl))
    | ((with_reducible refine And.intro ?_ ?_); focus ((with_reducible show chkR _ _ _ = true); kernel_rfl))
    | (refine callN_q (k := 52) fnok_52 (sized_p n m D (by omega) (by intro i hi; have := hs.m i hi; omega)) ?_ ?_)
    | (refine callDN_nq (k := 47) fnok_47 ((by have h := of_n n m D hs k hk1; rw [hbb, hLL] at h; exact h)) ?_ ?_)
    | ((with_reducible refine AW_loopQ (c := (Code.seq (Code.seq (Code.region 4 _ _) _) _)) (ι := Nat) [0, 5] (fun q => [(4, .t (.one (.slc 2 0 q 1)))]) (fun q => [(11, [.iv (.g (.int .i64 (firstN n k : Int))), .slc 10 0 L 1, .iv (.g (.int .i64 ((posS b q : Int))))]), (2, anyC q)]) (fun q => posS b q ≤ L ∧ (∀ i, i < q → goP b L i)) (fun q => L - posS b q) 0 ?lg4 ?l14 ?l24 ?li4 ?lr4); (case' lg4 => rintro q _); (case' li4 => try (exact ⟨Nat.zero_le _, fun i hi => absurd hi (Nat.not_lt_zero _)⟩)); (case' lr4 => rintro q ⟨h1, h2⟩ KR hR4; (clear hy; have hp := hB (posS b q); obtain ⟨hr, hr2⟩ := rl_int hB (posS b q); have hp1 := hB (posS b q + 1); have hp2 := hB (posS b q + 2); have hps := posS_s b q; have hg := posS_ge b q; clear hz; have hz : (posS b q : Int) + 3 + b (posS b q + 1) * 256 + b (posS b q + 2) = (posS b (q + 1) : Int) := (by rw [hps]; omega); rcases rd_cases b L (posS b q) hL h1 with ⟨hx, hy⟩ | ⟨hx, hy⟩ | ⟨hx, hy⟩); simp only [keepE, hupd, hset, lk, if_true, if_false, Nat.reduceEqDiff, reduceIte, List.cons_append, List.nil_append, bytI, rowsI, lstC_row, maxLen, hz, hy, shl8, hk, hsz, hm0, anyC_len, toNat_1, toNat_2, decide_true, decide_false, bV]))
    | ((with_reducible refine hR4 _ (q + 1) ?_); (try clear hR4 KR))
    | ((with_reducible refine Told.mk ?_); simp only [go_sem, reduceIte, reduceCtorEq, Nat.reduceAdd, Nat.reduceLT, Nat.reduceLeDiff, Nat.reduceEqDiff, Nat.reduceMul, Nat.reduceSub, Nat.reduceBEq, bytI, rowsI, lstC_row, maxLen, hz, hy, shl8, hk, hsz, hm0, anyC_len, toNat_1, toNat_2, decide_true, decide_false, bV] <;> (first | exact True.intro | (((try simp (disch := omega) only [seaWrap, Int.natCast_add, Int.cast_ofNat_Int, and_true, true_and, and_self]); (repeat' (first | exact True.intro | omega | rfl | (with_reducible assumption) | (with_reducible refine And.intro ?_ ?_) | (exact all_succ (by assumption) (by assumption)) | (exact all_succ (by assumption) ⟨by omega, by omega, by omega⟩) | (exact wkC_any (by simp [anyC])) | (exact wkC_same _ _))); done)) | (((try simp (disch := omega) only [seaWrap, Int.natCast_add, Int.cast_ofNat_Int, and_true, true_and, and_self]); (repeat' (first | exact True.intro | omega | rfl | (with_reducible assumption) | (with_reducible refine And.intro ?_ ?_) | (exact all_succ (by assumption) (by assumption)) | (exact wkC_same _ _))); done)) | (refine Stuck.out ?_)))
    | ((fail_if_success (with_reducible show AW _ _ _ _)); simp (maxSteps := 2000000) only [go_sem, reduceIte, reduceCtorEq, Nat.reduceAdd, Nat.reduceLT, Nat.reduceLeDiff, Nat.reduceEqDiff, Nat.reduceMul, Nat.reduceSub, Nat.reduceBEq, Try.f35, Try.f53, zc_55, ty_24, fnok_52, of_24_0, ty_22, sl_22, ar_22, ty_25, sl_25, ar_25, ty_5, fo_55, ty_55, in_3, fnok_47, fnok_53, of_55_1, of_55_2, ty_3, le_25, zc_25, bytI, rowsI, lstC_row, maxLen, hz, hy, shl8, hk, hsz, hm0, anyC_len, toNat_1, toNat_2, decide_true, decide_false, bV])
    | ((fail_if_success (with_reducible show AW _ _ _ _)); simp (disch := omega) only [seaWrap, seaDiv, seaMod, toNat_1, toNat_2, hz])
    | ((refine callN_i (k := 53) Try.func53 rfl fnok_53 (by rw [Try.ntmps53]; simp) ?_ ?_ (fun K hK => ?_)); (focus (first | exact True.intro | (with_reducible assumption) | omega | (refine ⟨?_, ?_⟩ <;> omega) | (intro _; first | exact True.intro | (with_reducible assumption) | omega) | (intros; (repeat' (first | exact True.intro | omega | (with_reducible assumption) | (with_reducible refine And.intro ?_ ?_))); done) | (simp (disch := omega) only [Bool.and_eq_true, Bool.or_eq_true, decide_eq_true_eq, bne_iff_ne, ne_eq] at *; first | done | omega | (intros; omega)) | (simp; done) | (simp; omega) | (simp +contextual; done) | (intro h; rw [h]; rfl) | (intros; simp_all; done))); (focus (simp [lsF])); simp only [Try.ntmps53, List.map_cons, List.map_nil, List.nil_append, List.cons_append, List.append_nil, LV.tv, argEnv, Nat.zero_add, Nat.reduceAdd])
    | ((with_reducible refine hK _ ?_); clear hK K)
    | (with_reducible apply_assumption -exfalso only [*]))
  all_goals first
    | (intro i; rw [(parse_fail h2 (by omega) (by omega) (by omega)).2.2.1] at hok; cases hok)
    | (intro i; have e3 := parse_stop h2 (fun h => by omega); rw [e3.2.2.1] at hok; have hok := of_decide_eq_true hok; rw [e3.2.2.2]; have e0 : b (posS b q) = 0 := (by omega); rw [e0]; rfl)
    | (intro i; rw [(parse_stop h2 (fun h => by omega)).2.2.2])

end Go.Proofs.Ytifoncmlelinjaa
