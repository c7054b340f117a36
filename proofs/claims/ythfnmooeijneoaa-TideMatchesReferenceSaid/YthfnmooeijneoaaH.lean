/- H: walks on abstract states. -/
import Derived.Test.YthfnmooeijneoaaC0
set_option linter.unusedVariables false
set_option linter.unusedSimpArgs false
namespace Go.Proofs.Ythfnmooeijneoaa
open Go.RowKit Go.Sea
attribute [local go_sem] callK_N gf gk gdrop lkL setL lsF ltAll rdyL bodyF roundQ roundS loopQ loopS jumpOf inLs yV yA bAV zipPut purgeG List.tail_cons Option.isNone_none Option.isNone_some callGK_f callDK_f callDGK_f retN retHN blockA arun_nil arun_plain arun_guard plainF guardF guardB arunD_nil arunD_plain arunD_guard plainDF guardDF guardDB AS.ent Eff.noApp Eff.tgt ftF AV.refs TV.refs CV.refs LV.refs Op.operands Call.operands List.append_toArray List.push_toArray List.flatMap_cons List.flatMap_nil List.toList_toArray Option.toArray List.reverse_cons List.reverse_nil opF AS.ev constA lk AS.get AV.tv AV.nd AS.eff AS.put argEnv PT.tv PV.av AV.mbOf hset hget TV.cells dstOk thenA gB isB toB TV.bool? TV.int? intF loadF storeF fieldF indexF lenF sliceF optI appF minmaxF ipCells fillF repC partsF lvsF TV.lv LV.tv purgeE purgeC purgeH AV.purge CV.purge AV.has TV.has CV.has LV.has calleeF argsF tvsF toPT toIV toIVs toPTs toPV civ isIv iA bA List.map_cons List.map_nil List.length_nil List.length_cons List.getElem?_cons_zero List.getElem?_cons_succ List.getElem?_nil Option.getD_some Option.getD_none Option.bind_some Option.bind_none List.take_succ_cons List.take_zero List.drop_succ_cons List.drop_zero List.take_nil List.drop_nil List.cons_append List.nil_append List.append_nil List.getD_cons_zero List.getD_cons_succ Option.map_some Option.map_none Option.isSome_some Option.isSome_none List.size_toArray List.any_cons List.any_nil List.mem_cons if_true if_false ite_true ite_false cond_true cond_false Nat.zero_add Nat.add_zero Nat.sub_zero Nat.le_refl Nat.zero_mul Nat.mul_zero Nat.one_mul Nat.mul_one Int.toNat_zero Int.toNat_natCast Bool.or_false Bool.false_or Bool.or_true Bool.true_or Bool.and_true Bool.true_and Bool.and_false Bool.false_and beq_self_eq_true beq_true beq_false Bool.not_true Bool.not_false and_true true_and and_false false_and and_self imp_self Bool.cond_false_right Bool.cond_true_left implies_true forall_const true_implies false_implies Option.some.injEq Prod.mk.injEq ne_eq not_false_eq_true not_true_eq_false eq_self Nat.lt_irrefl Nat.not_lt_zero boF seaMin seaMax seaNat1 seaNat2 Value.bool.injEq Value.int.injEq srcF lstC TV.dp IV.eqv PT.eqv PV.eqv All2 keepE hupd callZ_N AS.frz AS.frzW frzs frzsOk frzOk frzE frzA frzT frzC frzG frzH hdel cmpS eqF eqC gvs eqVs eqV decide_true resF tupA inlQ okL okGL okG nextL wkH wkC wkV nilA nilC AV.ok TV.ok CV.ok LV.ok okB forall_eq_or_imp forall_eq List.not_mem_nil List.mem_singleton true_or or_true or_false false_or exists_prop AV.t.injEq TV.one.injEq CV.iv.injEq IV.g.injEq TV.agg.injEq List.cons.injEq
theorem fnok_15 : fnOk Try.prog 15 = true := by kernel_rfl

theorem windows_p (s st : Int) (n : Nat) (lo hi : Nat → Int) (need : Int) : CallsP Try.prog 15 [tideP s st n lo hi, .one (.g (.int .i64 need))] (.tup [.one (.lst 2 (WS s st n lo hi need).length (spanF (L1 (WS s st n lo hi need)) (L2 (WS s st n lo hi need)))), .one (.g (.int .i64 (WE s st n lo hi need)))]) := by
  unfold WS WE
  cases h : (tval s st n lo hi && nd need) with
  | false => exact windows_1 s st n lo hi need h
  | true =>
    simp only [Bool.and_eq_true] at h
    have b := of_decide_eq_true h.2
    exact windows_0 s st n lo hi need h.1 h.2 b.1 b.2
theorem next_1 {s st : Int} {n : Nat} {lo hi : Nat → Int} {need f long : Int} (h : (WE s st n lo hi need ≠ 0 ∨ tm f = false) ∨ tm long = false) : NV s st n lo hi need f long = 0 ∧ NE s st n lo hi need f long = 1 := by
  have e : ¬ (WE s st n lo hi need = 0 ∧ tm f = true ∧ tm long = true) := fun ⟨a, b, c⟩ => by rw [a, b, c] at h; simp at h
  unfold NV NE
  rw [if_neg e, if_neg e]; exact ⟨rfl, rfl⟩
theorem next_k {s st : Int} {n : Nat} {lo hi : Nat → Int} {need f long : Int} {k : Nat} (h : (WE s st n lo hi need = 0 ∧ tm f = true) ∧ tm long = true) (hk : k < (WS s st n lo hi need).length) (h1 : ∀ j, j < k → nxC (L1 (WS s st n lo hi need)) (L2 (WS s st n lo hi need)) f long j = false)
    (h2 : max (L1 (WS s st n lo hi need) k) f ≤ L2 (WS s st n lo hi need) k - long) : NV s st n lo hi need f long = max (L1 (WS s st n lo hi need) k) f ∧ NE s st n lo hi need f long = 0 := by
  have e := nxO_hit h1 hk (decide_eq_true h2)
  unfold NV NE
  rw [if_pos ⟨h.1.1, h.1.2, h.2⟩, if_pos ⟨h.1.1, h.1.2, h.2⟩, e]; exact ⟨rfl, rfl⟩
theorem next_n {s st : Int} {n : Nat} {lo hi : Nat → Int} {need f long : Int} {k : Nat} (h : (WE s st n lo hi need = 0 ∧ tm f = true) ∧ tm long = true) (hk : (WS s st n lo hi need).length ≤ k) (h1 : ∀ j, j < k → nxC (L1 (WS s st n lo hi need)) (L2 (WS s st n lo hi need)) f long j = false) :
    NV s st n lo hi need f long = 0 ∧ NE s st n lo hi need f long = 4 := by
  have e := nxO_none (n := (WS s st n lo hi need).length) (fun j hj => h1 j (by omega))
  unfold NV NE
  rw [if_pos ⟨h.1.1, h.1.2, h.2⟩, if_pos ⟨h.1.1, h.1.2, h.2⟩, e]; exact ⟨rfl, rfl⟩
theorem nx_round {s st : Int} {n : Nat} {lo hi : Nat → Int} {need : Int} {k : Nat} : (WS s st n lo hi need).length ≤ k ∨ (k < (WS s st n lo hi need).length ∧ (WS s st n lo hi need).length ≤ 400 ∧ 0 ≤ L1 (WS s st n lo hi need) k ∧ L1 (WS s st n lo hi need) k ≤ L2 (WS s st n lo hi need) k ∧ L2 (WS s st n lo hi need) k ≤ 10000000) := by
  rcases Nat.lt_or_ge k (WS s st n lo hi need).length with h | h
  · exact Or.inr ⟨h, (ws_ok s st n lo hi need).2, ws_at (ws_ok s st n lo hi need).1 h⟩
  · exact Or.inl h
theorem nxC_f {lo hi : Nat → Int} {f long : Int} {k : Nat} (h : hi k - long < max (lo k) f) : nxC lo hi f long k = false := decide_eq_false (by omega)

set_option maxRecDepth 100000 in
set_option maxHeartbeats 4000000 in
theorem tnext_p (s st : Int) (n : Nat) (lo hi : Nat → Int) (need f long : Int) : CallsP Try.prog 16 [tideP s st n lo hi, .one (.g (.int .i64 (need))), .one (.g (.int .i64 (f))), .one (.g (.int .i64 (long)))] (.tup [.one (.g (.int .i64 (NV s st n lo hi need f long))), .one (.g (.int .i64 (NE s st n lo hi need f long)))]) := by
  refine CallsP_of Try.func16 rfl (by rw [Try.ntmps16]; simp) ?_
  simp only [Try.ntmps16, List.map_cons, List.map_nil, PT.tv, argEnv, Nat.zero_add, Nat.reduceAdd]
  repeat' (first
    | (with_reducible refine AW_seq_k fun K hK => ?_)
    | ((first | (with_reducible refine And.intro ?_ ?_) | (with_reducible refine Need.mk ?_)); focus (first | exact True.intro | (with_reducible assumption) | omega | (refine ⟨?_, ?_⟩ <;> omega) | (intro _; first | exact True.intro | (with_reducible assumption) | omega) | (intros; (repeat' (first | exact True.intro | omega | (with_reducible assumption) | (with_reducible refine And.intro ?_ ?_))); done) | (simp (disch := omega) only [Bool.and_eq_true, Bool.or_eq_true, decide_eq_true_eq, bne_iff_ne, ne_eq] at *; first | done | omega | (intros; omega)) | (simp; done) | (simp; omega) | (simp +contextual; done) | (intro h; rw [h]; rfl) | (intros; simp_all; done)))
    | (with_reducible refine AW_skip ?_)
    | (with_reducible refine AW_exit ?_)
    | (with_reducible refine AW_ret ?_)
    | (with_reducible refine retK_n ?_)
    | (with_reducible refine retK_n' ?_)
    | (with_reducible refine retH_n rfl rfl rfl ?_)
    | (with_reducible refine retH_n' rfl rfl rfl ?_)
    | (with_reducible refine AW_condI ?_)
    | (with_reducible refine AW_block ?_)
    | ((with_reducible refine condN_t ?_ ?_) <;> (intro hc; (try simp only [Bool.and_eq_true, Bool.or_eq_true, Bool.not_eq_true', Bool.and_eq_false_iff, Bool.or_eq_false_iff, decide_eq_true_eq, decide_eq_false_iff_not, bne_iff_ne, beq_iff_eq, reduceCtorEq, bne_eq_false_iff_eq, beq_eq_false_iff_ne, Bool.not_eq_false', Int.not_le, Int.not_lt, Bool.not_not] at hc); (skip); (try (exfalso; first | contradiction | omega))))
    | (with_reducible refine AW_regionP 0 [0, 1, 2, 3] ?_)
    | (with_reducible refine AW_regionP 1 [1, 2, 3, 4] ?_)
    | (with_reducible refine AW_regionP 2 [2, 3, 10, 11] ?_)
    | (with_reducible refine AW_regionP 3 [] ?_)
    | (with_reducible refine AW_regionP 4 [2, 3, 10] ?_)
    | (with_reducible refine AW_regionP 5 [2, 3, 33, 34, 35] ?_)
    | (with_reducible refine AW_regionP 6 [2, 3, 33, 34, 35] ?_)
    | (with_reducible refine AW_regionP 7 [2, 3, 13, 33, 34, 35] ?_)
    | (with_reducible refine AW_regionP 8 [2, 3, 13, 14, 33, 34, 35] ?_)
    | (with_reducible refine AW_regionP 9 [14] ?_)
    | (with_reducible refine AW_regionP 10 [2, 3, 33, 34, 35] ?_)
    | (with_reducible refine AW_regionP 11 [] ?_)
    | (refine callN_q (k := 15) fnok_15 (windows_p _ _ _ _ _ _) ?_ ?_)
    | (refine callGN_q (k := 49) fnok_49 (fun hg => isTime_p _) ?_ ?_)
    | ((with_reducible refine AW_loopQ (c := (Code.seq (Code.region 5 _ _) _)) (ι := Nat) [2, 3, 33, 34] (fun k => [(35, iA .i64 (k : Int))]) (fun k => []) (fun k => k ≤ (WS s st n lo hi need).length ∧ (∀ j, j < k → nxC (L1 (WS s st n lo hi need)) (L2 (WS s st n lo hi need)) f long j = false)) (fun k => (WS s st n lo hi need).length - k) 0 ?lg5 ?l15 ?l25 ?li5 ?lr5); (case' lg5 => rintro k _); (case' li5 => try (exact ⟨Nat.zero_le _, fun i hi => absurd hi (Nat.not_lt_zero _)⟩)); (case' lr5 => rintro k ⟨h1, h2⟩ KR hR5; (have ht := tm_bd (‹(WE s st n lo hi need = 0 ∧ tm f = true) ∧ tm long = true›.2)); rcases nx_round (s := s) (st := st) (n := n) (lo := lo) (hi := hi) (need := need) (k := k) with hge | ⟨hlt, hw1, hw2, hw3, hw4⟩; simp only [keepE, hupd, hset, lk, if_true, if_false, Nat.reduceEqDiff, reduceIte, List.cons_append, List.nil_append, spanF0, spanF1]))
    | ((with_reducible refine hR5 _ (k + 1) ?_); (try clear hR5 KR))
    | ((with_reducible refine Told.mk ?_); simp only [go_sem, reduceIte, reduceCtorEq, Nat.reduceAdd, Nat.reduceLT, Nat.reduceLeDiff, Nat.reduceEqDiff, Nat.reduceMul, Nat.reduceSub, Nat.reduceBEq, spanF0, spanF1] <;> (first | exact True.intro | ((try simp (disch := omega) only [seaWrap, Int.natCast_add, Int.cast_ofNat_Int, and_true, true_and, and_self]); (repeat' (first | exact True.intro | omega | (with_reducible assumption) | (with_reducible refine And.intro ?_ ?_) | (exact all_succ (by assumption) (nxC_f (by assumption))))); done) | (refine Stuck.out ?_)))
    | ((fail_if_success (with_reducible show AW _ _ _ _)); simp (maxSteps := 2000000) only [go_sem, reduceIte, reduceCtorEq, Nat.reduceAdd, Nat.reduceLT, Nat.reduceLeDiff, Nat.reduceEqDiff, Nat.reduceMul, Nat.reduceSub, Nat.reduceBEq, Try.f16, ty_24, fnok_15, fnok_49, le_22, sl_22, ar_22, ty_31, zc_31, of_31_0, ty_3, of_31_1, spanF0, spanF1])
    | ((fail_if_success (with_reducible show AW _ _ _ _)); simp (disch := omega) only [seaWrap, seaDiv, seaMod])
    | ((with_reducible refine hK _ ?_); clear hK K)
    | (with_reducible apply_assumption -exfalso))
  all_goals (first | (obtain ⟨e1, e2⟩ := next_1 (s := s) (st := st) (n := n) (lo := lo) (hi := hi) (need := need) (f := f) (long := long) (by assumption); rw [e1, e2]; exact ⟨rfl, rfl⟩) | (obtain ⟨e1, e2⟩ := next_k (k := k) (by assumption) (by omega) (by assumption) (by assumption); rw [e1, e2]; exact ⟨rfl, rfl⟩) | (obtain ⟨e1, e2⟩ := next_n (k := k) (by assumption) (by omega) (by assumption); rw [e1, e2]; exact ⟨rfl, rfl⟩))

end Go.Proofs.Ythfnmooeijneoaa
