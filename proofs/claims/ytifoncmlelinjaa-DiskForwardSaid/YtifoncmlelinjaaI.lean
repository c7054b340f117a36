/- I: walks on abstract states. -/
import Derived.Test.YtifoncmlelinjaaH
import Derived.Test.YtifoncmlelinjaaSeaU
set_option linter.unusedVariables false
set_option linter.unusedSimpArgs false
namespace Go.Proofs.Ytifoncmlelinjaa
open Go.RowKit Go.Sea
attribute [local go_sem] callK_N gf gk gdrop lkL setL lsF ltAll rdyL bodyF roundQ roundS loopQ loopS jumpOf inLs yV yA bAV zipPut purgeG_nil purgeG_cons List.tail_cons Option.isNone_none Option.isNone_some callGK_f callDK_f callDGK_f retN retHN blockA arun_nil arun_plain arun_guard plainF guardF guardB arunD_nil arunD_plain arunD_guard plainDF guardDF guardDB AS.ent Eff.noApp Eff.tgt ftF AV.refs TV.refs CV.refs LV.refs Op.operands Call.operands List.append_toArray List.push_toArray List.flatMap_cons List.flatMap_nil List.toList_toArray Option.toArray nidF nidA List.reverse_cons List.reverse_nil opF AS.ev constA lk AS.get AV.tv AV.nd AS.eff AS.put argEnv PT.tv PV.av AV.mbOf hset hget TV.cells dstOk thenA gB isB toB TV.bool? TV.int? intF loadF storeF fieldF indexF lenF sliceF optI appF minmaxF ipCells fillF partsF lvsF TV.lv LV.tv purgeE purgeC purgeH AV.purge CV.purge AV.has TV.has CV.has LV.has calleeF argsF tvsF toPT toIV toIVs toPTs toPV iA bA List.map_cons List.map_nil List.length_nil List.length_cons List.getElem?_cons_zero List.getElem?_cons_succ List.getElem?_nil Option.getD_some Option.getD_none Option.bind_some Option.bind_none List.take_succ_cons List.take_zero List.drop_succ_cons List.drop_zero List.take_nil List.drop_nil List.cons_append List.nil_append List.append_nil List.getD_cons_zero List.getD_cons_succ Option.map_some Option.map_none Option.isSome_some Option.isSome_none List.size_toArray List.any_cons List.any_nil List.mem_cons if_true if_false ite_true ite_false cond_true cond_false Nat.zero_add Nat.add_zero Nat.sub_zero Nat.le_refl Nat.zero_mul Nat.mul_zero Nat.one_mul Nat.mul_one Int.toNat_zero Int.toNat_natCast Bool.or_false Bool.false_or Bool.or_true Bool.true_or Bool.and_true Bool.true_and Bool.and_false Bool.false_and beq_self_eq_true beq_true beq_false Bool.not_true Bool.not_false and_true true_and and_false false_and and_self imp_self Bool.cond_false_right Bool.cond_true_left implies_true forall_const true_implies false_implies Option.some.injEq Prod.mk.injEq ne_eq not_false_eq_true not_true_eq_false eq_self Nat.lt_irrefl Nat.not_lt_zero op2F ncF slice3F offF slArrF copyF clearF toArrF callDK_t calleeT eqN barOp boF seaMin seaMax seaNat1 seaNat2 Value.bool.injEq Value.int.injEq srcF lstC TV.dp IV.eqv PT.eqv PV.eqv All2 keepE hupd callZ_N AS.frz AS.frzW frzs frzsOk frzOk frzE frzA frzT frzC frzG frzH hdel cmpS eqF eqC gvs eqVs eqV decide_true resF tupA inlQ okL okGL okG nextL nextF barOpN AS.mv mvE mvG_nil mvG_cons mvH mvO AV.mv TV.mv CV.mv LV.mv famL_mv famL_purge famL_snoc famL_zero wkH wkC wkV nilA nilC AV.ok TV.ok CV.ok LV.ok okB forall_eq_or_imp forall_eq List.not_mem_nil List.mem_singleton true_or or_true or_false false_or or_self exists_prop AV.t.injEq TV.one.injEq CV.iv.injEq IV.g.injEq TV.agg.injEq List.cons.injEq repC_0 repC_1 repC_2 repC_3 rowV_len rowV_pur rowV_has rowV_frz frzC isIv_iv civ_iv rowV_all List.map_append retON AV.to TV.to CV.to
theorem fnok_54 : fnOk Try.prog 54 = true := by kernel_rfl
theorem fo_65 : fieldsOk Try.prog 65 = true := by kernel_rfl
theorem pl_65_0 : placeF Try.prog 65 0 = some (0, 1) := by kernel_rfl
theorem pl_65_1 : placeF Try.prog 65 1 = some (1, 1) := by kernel_rfl
theorem zc_65 : zeroC Try.prog 65 = some [.iv (.g (.slice none 0 0)), .iv (.g (.int .i64 0))] := by kernel_rfl


theorem mv_iv (a b : Nat) {l : List CV} (h : ∀ c, c ∈ l → isIv c) : List.map (CV.mv a b) l = l := by
  refine (List.map_congr_left fun c hc => ?_).trans (List.map_id _)
  have := h c hc
  cases c <;> first | rfl | exact this.elim

set_option maxRecDepth 100000 in
set_option maxHeartbeats 4000000 in
theorem clone_n (n : Nat) (f : Nat → Int) (h0 : 0 < n) (hn : n ≤ 100000) : CallsN Try.prog 54 (List.map PT.tv [.one (.lst 1 (n) (bytI (f)))]) (rowV (bV f) n) (fun i => .t (.one (.slc i 0 n 1))) := by
  refine CallsN_of (args := [.one (.lst 1 (n) (bytI (f)))]) 0 Try.func54 rfl (by rw [Try.ntmps54]; simp) (rowV_iv _ _) (by intro h; simp [rowV] at h; omega) ?_
  simp only [Try.ntmps54, List.map_cons, List.map_nil, PT.tv, argEnv, Nat.zero_add, Nat.reduceAdd]
  repeat' (first
    | (with_reducible refine AW_seq_k fun K hK => ?_)
    | ((first | (with_reducible refine And.intro ?_ ?_) | (with_reducible refine Need.mk ?_)); focus (first | exact True.intro | (with_reducible assumption) | omega | (refine ⟨?_, ?_⟩ <;> omega) | (intro _; first | exact True.intro | (with_reducible assumption) | omega) | (intros; (repeat' (first | exact True.intro | omega | (with_reducible assumption) | (with_reducible refine And.intro ?_ ?_))); done) | (simp (disch := omega) only [Bool.and_eq_true, Bool.or_eq_true, decide_eq_true_eq, bne_iff_ne, ne_eq] at *; first | done | omega | (intros; omega)) | (simp; done) | (simp; omega) | (simp +contextual; done) | (intro h; rw [h]; rfl) | (intros; simp_all; done)))
    | (with_reducible refine AW_skip ?_)
    | (with_reducible refine AW_exit ?_)
    | (with_reducible refine AW_ret ?_)
    | (with_reducible refine retK_n ?_)
    | (with_reducible refine retK_n' ?_)
    | (with_reducible refine retH_n rfl rfl rfl ?_)
    | (with_reducible refine retH_n' rfl rfl rfl ?_)
    | (with_reducible refine retO_n ?_ ?_)
    | (with_reducible refine retO_n' ?_ ?_)
    | (with_reducible refine AW_condI ?_)
    | (with_reducible refine AW_block ?_)
    | ((with_reducible refine condN_t ?_ ?_) <;> (intro hc; (try simp only [Bool.and_eq_true, Bool.or_eq_true, Bool.not_eq_true', Bool.and_eq_false_iff, Bool.or_eq_false_iff, decide_eq_true_eq, decide_eq_false_iff_not, bne_iff_ne, beq_iff_eq, reduceCtorEq, bne_eq_false_iff_eq, beq_eq_false_iff_ne, Bool.not_eq_false', Int.not_le, Int.not_lt, Bool.not_not] at hc); (skip); (try (exfalso; first | contradiction | omega))))
    | (with_reducible refine AW_regionP 0 [0] ?_)
    | (with_reducible refine AW_regionP 1 [0] ?_)
    | (with_reducible refine AW_regionP 2 [] ?_)
    | (with_reducible refine AW_regionP 3 [0] ?_)
    | ((fail_if_success (with_reducible show AW _ _ _ _)); simp (maxSteps := 2000000) only [go_sem, reduceIte, reduceCtorEq, Nat.reduceAdd, Nat.reduceLT, Nat.reduceLeDiff, Nat.reduceEqDiff, Nat.reduceMul, Nat.reduceSub, Nat.reduceBEq, Try.f54, sl_25, zc_5, bytI, rowsI, lstC_row, maxLen])
    | ((with_reducible refine hK _ ?_); clear hK K))
  all_goals rfl

set_option maxRecDepth 100000 in
set_option maxHeartbeats 4000000 in
theorem begin_h (X0 X1 X2 X3 : List CV) (x0 : ∀ c, c ∈ X0 → isIv c) (x1 : ∀ c, c ∈ X1 → isIv c) (x2 : ∀ c, c ∈ X2 → isIv c) (x3 : ∀ c, c ∈ X3 → isIv c) (B : Nat → IV) (L : Nat) (fi en : Int) (n : Nat) (m : Nat → Nat) (D : Nat → Nat → Int) (hn : n ≤ 63) (hm : ∀ i, i < n → m i = 64) (af : Int) : CallsH Try.prog 39 [.agg [.iv (.lst 1 n (rowsI m D))], .one (.iv (.g (.int .i64 af)))] ((some X0 :: some X1 :: some X2 :: some X3 :: some (rowV B L) :: some ([.iv (.g (.int .i64 fi)), .slc 4 0 L 1, .iv (.g (.int .i64 en))]) :: none :: none :: none :: none :: none :: none :: none :: none :: none :: none :: none :: none :: none :: none :: none :: none :: none :: none :: none :: none :: none :: none :: none :: none :: none :: none :: ([]))) (.t (.one (.ptr 9 0))) ((some X0 :: some X1 :: some X2 :: some X3 :: some (rowV B L) :: some ([.iv (.g (.int .i64 fi)), .slc 4 0 L 1, .iv (.g (.int .i64 en))]) :: none :: none :: some (rowsC 32 n) :: some ([.slc 8 0 n 1, .iv (.g (.int .i64 af))]) :: none :: none :: none :: none :: none :: none :: none :: none :: none :: none :: none :: none :: none :: none :: none :: none :: none :: none :: none :: none :: none :: none :: (famL (fun k j => .g (.int .u8 (D k j))) n))) := by
  have p0 := fun i => purge_iv i x0
  have p1 := fun i => purge_iv i x1
  have p2 := fun i => purge_iv i x2
  have p3 := fun i => purge_iv i x3
  have m0 := fun a b => mv_iv a b x0
  have m1 := fun a b => mv_iv a b x1
  have m2 := fun a b => mv_iv a b x2
  have m3 := fun a b => mv_iv a b x3
  have hz : True := trivial
  refine CallsH_ofG Try.func39 rfl (by rw [Try.ntmps39]; simp) fun g ls fr hG hFr => ?_
  have hP : purgeG 8 g = g := hG.purge rfl
  have hM : ∀ b, mvG 15 b g = g := fun b => hG.mv rfl b

  simp only [Try.ntmps39, argEnv, Nat.zero_add, Nat.reduceAdd]
  repeat' (first
    | (with_reducible refine AW_litG (c := Code.ret) [4] (some X0 :: some X1 :: some X2 :: some X3 :: some (rowV B L) :: some ([.iv (.g (.int .i64 fi)), .slc 4 0 L 1, .iv (.g (.int .i64 en))]) :: none :: none :: some (rowsC 32 n) :: some ([.slc 8 0 n 1, .iv (.g (.int .i64 af))]) :: none :: none :: none :: none :: none :: none :: none :: none :: none :: none :: none :: none :: none :: none :: none :: none :: none :: none :: none :: none :: none :: none :: (famL (fun k j => .g (.int .u8 (D k j))) n)) (hG.mono (subH_spec (by simp only [subH]))) ?_ ?_ (AW_ret ?_))
    | (with_reducible refine AW_seq_k fun K hK => ?_)
    | ((first | (with_reducible refine And.intro ?_ ?_) | (with_reducible refine Need.mk ?_)); focus (first | exact True.intro | (with_reducible assumption) | omega | (refine ⟨?_, ?_⟩ <;> omega) | (intro _; first | exact True.intro | (with_reducible assumption) | omega) | (intros; (repeat' (first | exact True.intro | omega | (with_reducible assumption) | (with_reducible refine And.intro ?_ ?_))); done) | (simp (disch := omega) only [Bool.and_eq_true, Bool.or_eq_true, decide_eq_true_eq, bne_iff_ne, ne_eq] at *; first | done | omega | (intros; omega)) | (simp; done) | (simp; omega) | (simp +contextual; done) | (intro h; rw [h]; rfl) | (intros; simp_all; done)))
    | (with_reducible refine AW_skip ?_)
    | (with_reducible refine AW_exit ?_)
    | (with_reducible refine AW_ret ?_)
    | (with_reducible refine retK_n ?_)
    | (with_reducible refine retK_n' ?_)
    | (with_reducible refine retH_n rfl rfl rfl ?_)
    | (with_reducible refine retH_n' rfl rfl rfl ?_)
    | (with_reducible refine retO_n ?_ ?_)
    | (with_reducible refine retO_n' ?_ ?_)
    | (with_reducible refine AW_condI ?_)
    | (with_reducible refine AW_block ?_)
    | ((with_reducible refine condN_t ?_ ?_) <;> (intro hc; (try simp only [Bool.and_eq_true, Bool.or_eq_true, Bool.not_eq_true', Bool.and_eq_false_iff, Bool.or_eq_false_iff, decide_eq_true_eq, decide_eq_false_iff_not, bne_iff_ne, beq_iff_eq, reduceCtorEq, bne_eq_false_iff_eq, beq_eq_false_iff_ne, Bool.not_eq_false', Int.not_le, Int.not_lt, Bool.not_not] at hc); ((try (have e0 : n = k := (by omega); subst e0))); (try (exfalso; first | contradiction | omega))))
    | (with_reducible refine AW_regionP 0 [0, 1] ?_)
    | (with_reducible refine AW_regionP 1 [1, 2] ?_)
    | (with_reducible refine AW_regionP 2 [1, 2, 5] ?_)
    | (with_reducible refine AW_regionP 3 [1, 5, 9, 10, 11] ?_)
    | (with_reducible refine AW_regionP 4 [1, 5, 9, 10, 11] ?_)
    | ((with_reducible refine AW_prune (c := Code.region 5 _ true) [1, 5, 7, 9, 10, 11] ?_); (with_reducible refine AW_regionBn 12 5 ?_ ?_ ?_ ?_ ?_ ?_); (focus kernel_rfl); (focus kernel_rfl); (focus kernel_rfl); (focus kernel_rfl); (focus kernel_rfl))
    | (with_reducible refine AW_mv (c := Code.region 6 _ false) 15 (k + 32) (by simp [famL_len]) rfl (AW_regionP 6 [1, 5, 9, 10, 11] ?_))
    | (with_reducible refine AW_regionP 7 [1, 5] ?_)
    | ((with_reducible refine And.intro ?_ ?_); focus (first | ((with_reducible show chkS _ _ _ _ = true); kernel_rfl) | ((with_reducible show holesB _ _ _ = true); kernel_rfl)))
    | ((with_reducible refine And.intro ?_ ?_); focus ((with_reducible show chkR _ _ _ = true); kernel_rfl))
    | (refine callDN_nq (k := 54) fnok_54 (clone_n (m k) (D k) (by omega) (by omega)) ?_ ?_)
    | ((with_reducible refine AW_loopF' (c := (Code.seq (Code.region 3 _ _) _)) (ι := Nat) [1, 5, 9, 10] (fun k => [(11, iA .i64 (k : Int))]) (fun k => (some X0 :: some X1 :: some X2 :: some X3 :: some (rowV B L) :: some ([.iv (.g (.int .i64 fi)), .slc 4 0 L 1, .iv (.g (.int .i64 en))]) :: none :: some ([.slc 8 0 (k) 1]) :: some (rowsC 32 (k)) :: none :: none :: none :: none :: none :: none :: none :: none :: none :: none :: none :: none :: none :: none :: none :: none :: none :: none :: none :: none :: none :: none :: none :: (famL (fun k j => .g (.int .u8 (D k j))) (k)))) (fun k => k ≤ n) (fun k => n - k) 0 ?lg3 ?l13 ?l23 ?li3 ?lr3); (case' lg3 => rintro k _; exact hG.mono (subH_spec (by simp only [subH]))); (case' li3 => try (first | trivial | omega | (simp; done) | (simp; omega))); (case' lr3 => rintro k hk KR hR3; have hmk := hm k; have hpr := rowsC_pur (a := 8) (B := 32) (n := k) (by omega); have hmv := rowsC_mv (a := 15) (b := k + 32) (B := 32) (n := k) (by omega); clear hz; have hz := And.intro hpr hmv; simp only [keepE, hupd, hset, lk, if_true, if_false, Nat.reduceEqDiff, reduceIte, List.cons_append, List.nil_append, bytI, rowsI, p0, p1, p2, p3, m0, m1, m2, m3, hP, hM, maxLen, rowsC_len, rowV_mv, hz]))
    | ((with_reducible refine hR3 _ (k + 1) ?_); (try clear hR3 KR))
    | ((with_reducible refine Told.mk ?_); simp only [go_sem, reduceIte, reduceCtorEq, Nat.reduceAdd, Nat.reduceLT, Nat.reduceLeDiff, Nat.reduceEqDiff, Nat.reduceMul, Nat.reduceSub, Nat.reduceBEq, bytI, rowsI, p0, p1, p2, p3, m0, m1, m2, m3, hP, hM, maxLen, rowsC_len, rowV_mv, hz] <;> (first | exact True.intro | (((try simp (disch := omega) only [seaWrap, Int.natCast_add, Int.cast_ofNat_Int, and_true, true_and, and_self]); (repeat' (first | exact True.intro | omega | rfl | (with_reducible assumption) | (with_reducible refine And.intro ?_ ?_) | (exact all_succ (by assumption) (by assumption)) | (exact wkC_eq rfl (by assumption)) | (exact wkC_same _ _) | (exact wkH_famR _ _) | (exact wkC_rows fun k hk => okB_fam hk) | (exact wkC_any rfl) | ((rw [hmk (by omega), rowsC_snoc]; exact wkC_rows fun k hk => okB_fam hk)) | ((rw [hmk (by omega)]; exact wkH_snoc fun j hj => rfl)))); done)) | (refine Stuck.out ?_)))
    | ((fail_if_success (with_reducible show AW _ _ _ _)); simp (maxSteps := 2000000) only [go_sem, reduceIte, reduceCtorEq, Nat.reduceAdd, Nat.reduceLT, Nat.reduceLeDiff, Nat.reduceEqDiff, Nat.reduceMul, Nat.reduceSub, Nat.reduceBEq, Try.f39, zc_24, of_24_0, ty_22, le_22, sl_22, ar_22, ty_25, fnok_54, zc_25, ty_24, zc_65, fo_65, pl_65_0, pl_65_1, bytI, rowsI, p0, p1, p2, p3, m0, m1, m2, m3, hP, hM, maxLen, rowsC_len, rowV_mv, hz])
    | ((fail_if_success (with_reducible show AW _ _ _ _)); simp (disch := omega) only [seaWrap, seaDiv, seaMod])
    | ((with_reducible refine hK _ ?_); clear hK K)
    | (with_reducible apply_assumption -exfalso only [*]))

end Go.Proofs.Ytifoncmlelinjaa
