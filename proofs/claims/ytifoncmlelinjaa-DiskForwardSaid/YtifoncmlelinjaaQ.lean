/- Q: walks on abstract states. -/
import Derived.Test.YtifoncmlelinjaaP
set_option linter.unusedVariables false
set_option linter.unusedSimpArgs false
namespace Go.Proofs.Ytifoncmlelinjaa
open Go.RowKit Go.Sea
attribute [local go_sem] callK_N gf gk gdrop lkL setL lsF ltAll rdyL bodyF roundQ roundS loopQ loopS jumpOf inLs yV yA bAV zipPut purgeG_nil purgeG_cons List.tail_cons Option.isNone_none Option.isNone_some callGK_f callDK_f callDGK_f retN retHN blockA arun_nil arun_plain arun_guard plainF guardF guardB arunD_nil arunD_plain arunD_guard plainDF guardDF guardDB AS.ent Eff.noApp Eff.tgt ftF AV.refs TV.refs CV.refs LV.refs Op.operands Call.operands List.append_toArray List.push_toArray List.flatMap_cons List.flatMap_nil List.toList_toArray Option.toArray nidF nidA List.reverse_cons List.reverse_nil opF AS.ev constA lk AS.get AV.tv AV.nd AS.eff AS.put argEnv PT.tv PV.av AV.mbOf hset hget TV.cells dstOk thenA gB isB toB TV.bool? TV.int? intF loadF storeF fieldF indexF lenF sliceF optI appF minmaxF ipCells fillF partsF lvsF TV.lv LV.tv purgeE purgeC purgeH AV.purge CV.purge AV.has TV.has CV.has LV.has calleeF argsF tvsF toPT toIV toIVs toPTs toPV iA bA List.map_cons List.map_nil List.length_nil List.length_cons List.getElem?_cons_zero List.getElem?_cons_succ List.getElem?_nil Option.getD_some Option.getD_none Option.bind_some Option.bind_none List.take_succ_cons List.take_zero List.drop_succ_cons List.drop_zero List.take_nil List.drop_nil List.cons_append List.nil_append List.append_nil List.getD_cons_zero List.getD_cons_succ Option.map_some Option.map_none Option.isSome_some Option.isSome_none List.size_toArray List.any_cons List.any_nil List.mem_cons if_true if_false ite_true ite_false cond_true cond_false Nat.zero_add Nat.add_zero Nat.sub_zero Nat.le_refl Nat.zero_mul Nat.mul_zero Nat.one_mul Nat.mul_one Int.toNat_zero Int.toNat_natCast Bool.or_false Bool.false_or Bool.or_true Bool.true_or Bool.and_true Bool.true_and Bool.and_false Bool.false_and beq_self_eq_true beq_true beq_false Bool.not_true Bool.not_false and_true true_and and_false false_and and_self imp_self Bool.cond_false_right Bool.cond_true_left implies_true forall_const true_implies false_implies Option.some.injEq Prod.mk.injEq ne_eq not_false_eq_true not_true_eq_false eq_self Nat.lt_irrefl Nat.not_lt_zero op2F ncF slice3F offF slArrF copyF clearF toArrF callDK_t calleeT eqN barOp boF seaMin seaMax seaNat1 seaNat2 Value.bool.injEq Value.int.injEq srcF TV.dp IV.eqv PT.eqv PV.eqv All2 keepE hupd callZ_N AS.frz AS.frzW frzs frzsOk frzOk frzE frzA frzT frzC frzG frzH hdel cmpS eqF eqC gvs eqVs eqV decide_true resF tupA inlQ okL okGL okG nextL nextF barOpN AS.mv mvE mvG_nil mvG_cons mvH mvO AV.mv TV.mv CV.mv LV.mv famL_mv famL_purge famL_snoc famL_zero wkH wkC wkV nilA nilC AV.ok TV.ok CV.ok LV.ok okB forall_eq_or_imp forall_eq List.not_mem_nil List.mem_singleton true_or or_true or_false false_or or_self exists_prop AV.t.injEq TV.one.injEq CV.iv.injEq IV.g.injEq TV.agg.injEq List.cons.injEq repC_0 repC_1 repC_2 repC_3 rowV_len rowV_pur rowV_has rowV_frz frzC isIv_iv civ_iv rowV_all List.map_append retON AV.to TV.to CV.to


theorem wr_fin {S : Nat → Nat} {W : Nat → Nat → Int} {Q i o : Nat} {c d : IV} (hc : c.eqv (.g (.int .i64 (S Q : Int)))) (hd : d.eqv (.lst 1 64 (bytI (W Q)))) (hi : i < Q + 1) (ho : o < 2) : (civ ((rowV (wrC S W) (Q * 2) ++ [CV.iv c, CV.iv d]).getD (i * 2 + o) .any)).eqv (wrI S W i o) := by
  rw [← wrC_row ho]
  by_cases h : i < Q
  · rw [List.getD_eq_getElem?_getD, List.getElem?_append_left (by rw [rowV_len]; omega), ← List.getD_eq_getElem?_getD, rowV_get (by omega), civ_iv]
    exact IV.eqv_refl _
  · obtain rfl : i = Q := by omega
    rw [List.getD_eq_getElem?_getD, List.getElem?_append_right (by rw [rowV_len]; omega), rowV_len, show i * 2 + o - i * 2 = o by omega]
    rcases (by omega : o = 0 ∨ o = 1) with rfl | rfl
    · rw [Nat.add_zero, wrC_0]; exact hc
    · rw [wrC_1]; exact hd
theorem apK_s {ok : Nat → Prop} {b : Nat → Int} {e r : Nat} {R : Nat → Int} {i L : Nat} (h1 : 1 ≤ i) (hL : e + i + 1 ≤ L) : wkC ok (rowV (fun j => if j < e + i + 1 then if j < e + i then bV (apK b e r R i) j else IV.g (Value.int IntKind.u8 (formF r R i)) else bV (apK b e r R i) (e + i + 1 + (j - (e + i + 1)))) L) (rowV (bV (apK b e r R (i + 1))) L) := by
  refine wkC_row _ fun j hj => ?_
  rcases (by omega : j ≤ e ∨ (e < j ∧ j < e + i) ∨ j = e + i ∨ e + i < j) with h|h|h|h <;> (simp (disch := omega) only [if_pos, if_neg, apK, bV]; first | exact u8_eqv rfl | exact u8_eqv (congrArg b (by omega)) | exact u8_eqv (congrArg (formF r R) (by omega)) | exact IV.eqv_refl _)
theorem wr_end {Q : Nat} {S : Nat → Nat} {W : Nat → Nat → Int} {c d : IV} : (Q + 1) * 2 ≤ (rowV (wrC S W) (Q * 2) ++ [CV.iv c, CV.iv d]).length ∧ ∀ x, x ∈ rowV (wrC S W) (Q * 2) ++ [CV.iv c, CV.iv d] → isIv x := by
  refine ⟨by rw [List.length_append, rowV_len]; simp only [List.length_cons, List.length_nil]; omega, fun x hx => ?_⟩
  rcases List.mem_append.1 hx with h | h
  · exact rowV_iv _ _ x h
  · simp only [List.mem_cons, List.not_mem_nil, or_false] at h
    rcases h with rfl | rfl <;> exact trivial
theorem row_eqv64 {f g : Nat → Int} (h : ∀ j, j < 64 → f j = g j) : (IV.lst 1 64 fun p o => civ ((rowV (bV f) 64).getD (p + o) .any)).eqv (.lst 1 64 (bytI g)) :=
  ⟨rfl, rfl, fun i o hi ho => rowV_eqv' (F := bytI g) (fun j hj => u8_eqv (h j hj)) i o hi ho⟩
theorem i64_eqv {a b : Int} (h : a = b) : (IV.g (.int .i64 a)).eqv (.g (.int .i64 b)) := by rw [h]; exact IV.eqv_refl _

set_option maxRecDepth 100000 in
set_option maxHeartbeats 4000000 in
theorem appends_lt (n : Nat) (m : Nat → Nat) (D : Nat → Nat → Int) (hs : Szd n m) (hD : BytD D) (k : Nat) (hk1 : k ≤ 1) (hk : D 0 0 = (k : Int)) (r : Nat) (R : Nat → Int) (hr : r ≤ 65535) (b : Nat → Int) (hbb : halfF n D k = b) (L : Nat) (hLL : hlf n * 64 = L) (e : Nat) (hee : endP b L = e) (hok : okP b L = true) (hfit : e + (r + 3) < L) : CallsP Try.prog 42 [.agg [.lst 1 (n) (rowsI (m) (D))], .one (.lst 1 (r) (bytI (R)))] (.tup [.one (.lst 2 (secsN e r L + 1) (wrI (apS (firstN n k) e (secsN e r L)) (apW b e r R (secsN e r L)))), .one (.g (.int .i64 (0)))]) := by
  have h3 := hs.h3
  have h64 := hs.h63
  have hl := hs.hlf
  have hm0 := hs.m 0 (by omega)
  have hm : ∀ i, i < n → m i ≤ 9223372036854775807 := fun i hi => by have := hs.m i hi; omega
  have hsz := hs.b
  have hd0 := hD 0 0
  have hd1 : ((k : Int) > 1) = False := eq_false (by omega)
  have hef := (endR_ok hok).trans hee
  have hfl := firstN_le (n := n) hk1
  have hB : Byt b := hbb ▸ hD.half n k
  have hlast : lastN e r L = min (e + (r + 3)) (L - 1) := rfl
  have hsec : secsN e r L = lastN e r L / 64 + 1 - e / 64 := rfl
  have hz : True := trivial
  have z7 : min e L = e := by omega
  have z9 : e + 1 + (L - (e + 1)) = L := by omega
  refine CallsP_of Try.func42 rfl (by rw [Try.ntmps42]; simp) ?_
  simp only [Try.ntmps42, List.map_cons, List.map_nil, PT.tv, argEnv, Nat.zero_add, Nat.reduceAdd]
  repeat' (first
    | (with_reducible refine AW_litG (c := Code.region 22 _ false) [2, 6, 7, 9, 14] [some [.iv (.lst 1 n (rowsI m D))], some (rowV (bV (ap2 b e r R)) L), some (rowV (wrC (apS (firstN n k) e (secsN e r L)) (apW b e r R (secsN e r L))) (secsN e r L * 2))] (GOk.nil _) ?_ ?_ (AW_regionP 22 [2, 6, 7, 9, 14] ?_))
    | (with_reducible refine AW_frz (c := Code.ret) [3] ?_ (AW_ret ?_))
    | (with_reducible refine AW_seq_k fun K hK => ?_)
    | ((first | (with_reducible refine And.intro ?_ ?_) | (with_reducible refine Need.mk ?_)); focus (first | exact True.intro | (with_reducible assumption) | omega | (refine ⟨?_, ?_⟩ <;> omega) | (intro _; first | exact True.intro | (with_reducible assumption) | omega) | (intros; (repeat' (first | exact True.intro | omega | (with_reducible assumption) | (with_reducible refine And.intro ?_ ?_))); done) | (simp (disch := omega) only [Bool.and_eq_true, Bool.or_eq_true, decide_eq_true_eq, bne_iff_ne, ne_eq] at *; first | done | omega | (intros; omega)) | (simp; done) | (simp; omega) | (simp +contextual; done) | (intro h; rw [h]; rfl) | (intros; simp_all; done)))
    | (with_reducible refine AW_skip ?_)
    | (with_reducible refine AW_exit ?_)
    | (with_reducible refine AW_ret ?_)
    | (with_reducible refine retK_n ?_)
    | (with_reducible refine retK_n' ?_)
    | (with_reducible refine retH_n rfl rfl rfl ?_)
    | (with_reducible refine retH_n' rfl rfl rfl ?_)
    | (with_reducible refine retO_n ?_ ?_)
    | (with_reducible refine retO_n' ?_ ?_)
    | (with_reducible refine AW_condI ?_)
    | (with_reducible refine AW_block ?_)
    | ((with_reducible refine condN_t ?_ ?_) <;> (intro hc; (try simp only [Bool.and_eq_true, Bool.or_eq_true, Bool.not_eq_true', Bool.and_eq_false_iff, Bool.or_eq_false_iff, decide_eq_true_eq, decide_eq_false_iff_not, bne_iff_ne, beq_iff_eq, reduceCtorEq, bne_eq_false_iff_eq, beq_eq_false_iff_ne, Bool.not_eq_false', Int.not_le, Int.not_lt, Bool.not_not] at hc); ((try (have y0 : e + (r + 3) < L := (by omega); have y1 : ((e : Int) + ((r + 3 : Nat) : Int) - 1 + 1).toNat = e + (r + 3) := (by omega); have y2 : min (e + (r + 3)) L = e + (r + 3) := (by omega); have y3 : e + (r + 3) + 1 + (L - (e + (r + 3) + 1)) = L := (by omega); clear hz; have hz := And.intro y1 (And.intro y2 y3))); (try (have y0 : i < r + 3 := (by omega); have y1 : min (e + i) L = e + i := (by omega); have y2 : e + i + 1 + (L - (e + i + 1)) = L := (by omega); clear hz; have hz := And.intro y1 y2)); (try (have e0 : i = r + 3 := (by omega); subst e0)); (try (have e0 : q = secsN e r L := (by omega); subst e0))); (try (exfalso; first | contradiction | omega))))
    | (with_reducible refine AW_regionP 0 [0, 1] ?_)
    | (with_reducible refine AW_regionP 1 [1, 2] ?_)
    | (with_reducible refine AW_regionP 2 [1, 2, 6] ?_)
    | (with_reducible refine AW_regionP 3 [1, 2, 6, 7] ?_)
    | (with_reducible refine AW_regionP 4 [1, 2, 6, 7, 9] ?_)
    | (with_reducible refine AW_regionP 5 [2, 6, 7, 9, 11] ?_)
    | (with_reducible refine AW_regionP 6 [] ?_)
    | (with_reducible refine AW_regionP 7 [2, 6, 7, 9, 11] ?_)
    | (with_reducible refine AW_regionP 8 [2, 6, 7, 9, 11, 12] ?_)
    | (with_reducible refine AW_regionP 9 [2, 6, 7, 9, 11, 12] ?_)
    | (with_reducible refine AW_regionP 10 [2, 6, 7, 9, 11, 12] ?_)
    | (with_reducible refine AW_regionP 11 [2, 6, 7, 9, 11] ?_)
    | (with_reducible refine AW_regionP 12 [2, 6, 7, 9, 13] ?_)
    | (with_reducible refine AW_regionP 13 [2, 6, 7, 9, 13] ?_)
    | (with_reducible refine AW_regionP 14 [2, 6, 7, 9, 13] ?_)
    | (with_reducible refine AW_regionP 15 [2, 6, 7, 9, 13] ?_)
    | (with_reducible refine AW_regionP 16 [2, 6, 7, 9, 13] ?_)
    | (with_reducible refine AW_regionP 17 [2, 6, 7, 9, 13, 14] ?_)
    | (with_reducible refine AW_regionP 18 [2, 6, 7, 9, 13, 14, 15] ?_)
    | (with_reducible refine AW_frz (c := Code.region 19 _ false) [3] ?_ (AW_regionP 19 [2, 6, 7, 9, 13, 14, 15] ?_))
    | (with_reducible refine AW_regionP 20 [2, 6, 7, 9, 13, 14, 15] ?_)
    | (with_reducible refine AW_regionP 21 [2, 6, 7, 9, 14] ?_)
    | (with_reducible refine AW_regionP 22 [2, 6, 7, 9, 14] ?_)
    | (with_reducible refine AW_regionP 23 [2, 6, 7, 14, 16] ?_)
    | (refine callN_q (k := 55) fnok_55 (rform_p r R (by omega)) ?_ ?_)
    | (refine callN_q (k := 34) fnok_34 (first_p n m D k (by omega) (by omega) (by omega)) ?_ ?_)
    | (refine callN_hpq (k := 38) fnok_38 (half_n n m D hs k hk1 _ 1 rfl) ?_ ?_)
    | (refine callN_hpq (k := 37) fnok_37 (ownArg1 (rparse_p L b (by omega) hB) 1 rfl) ?_ ?_)
    | (refine callN_hpq (k := 56) fnok_56 (ownArg2 (sector_o L (ap1 b e r R) (e / 64 + q) (by omega) (by omega)) 1 3 rfl rfl) ?_ ?_)
    | (refine callN_hpq (k := 56) fnok_56 (ownArg2 (sector_o L (ap2 b e r R) (e / 64) (by omega) (by omega)) 1 3 rfl rfl) ?_ ?_)
    | ((with_reducible refine AW_loopQ (c := (Code.seq (Code.seq (Code.region 8 _ _) _) _)) (ι := Nat) [2, 6, 7, 9, 11] (fun i => [(12, iA .i64 (i : Int))]) (fun i => [(1, rowV (bV (apK b e r R i)) L)]) (fun i => 1 ≤ i ∧ i ≤ r + 3) (fun i => r + 3 - i) 1 ?lg8 ?l18 ?l28 ?li8 ?lr8); (case' lg8 => rintro i _); (case' li8 => try (exact ⟨Nat.le_refl _, by omega⟩)); (case' lr8 => rintro i ⟨hi0, hi⟩ KR hR8; skip; simp only [keepE, hupd, hset, lk, if_true, if_false, Nat.reduceEqDiff, reduceIte, List.cons_append, List.nil_append, bytI, rowsI, hm0, hk, hef, toNat3, rowV_take, rowV_drop, rowV_zero, rowV_app, rowV_app1, Nat.zero_min, Nat.min_self, lstC_row, maxLen, PV.fl, PT.fl, IV.fl, flatI, hbb, hLL, hee, z7, z9, hz]))
    | ((with_reducible refine hR8 _ (i + 1) ?_); (try clear hR8 KR))
    | ((with_reducible refine AW_loopQ (c := (Code.seq (Code.seq (Code.region 18 _ _) _) _)) (ι := Nat) [2, 6, 7, 9, 13] (fun q => [(14, .t (.one (.slc 2 0 q 2))), (15, iA .i64 ((e / 64 + q : Nat) : Int))]) (fun q => [(1, rowV (bV (ap1 b e r R)) L), (2, rowV (wrC (apS (firstN n k) e (secsN e r L)) (apW b e r R (secsN e r L))) (q * 2))]) (fun q => q ≤ secsN e r L) (fun q => secsN e r L - q) 0 ?lg18 ?l118 ?l218 ?li18 ?lr18); (case' lg18 => rintro q _); (case' li18 => try (first | trivial | omega | (simp; done) | (simp; omega))); (case' lr18 => rintro q hq KR hR18; skip; simp only [keepE, hupd, hset, lk, if_true, if_false, Nat.reduceEqDiff, reduceIte, List.cons_append, List.nil_append, bytI, rowsI, hm0, hk, hef, toNat3, rowV_take, rowV_drop, rowV_zero, rowV_app, rowV_app1, Nat.zero_min, Nat.min_self, lstC_row, maxLen, PV.fl, PT.fl, IV.fl, flatI, hbb, hLL, hee, z7, z9, hz]))
    | ((with_reducible refine hR18 _ (q + 1) ?_); (try clear hR18 KR))
    | ((with_reducible refine Told.mk ?_); simp only [go_sem, reduceIte, reduceCtorEq, Nat.reduceAdd, Nat.reduceLT, Nat.reduceLeDiff, Nat.reduceEqDiff, Nat.reduceMul, Nat.reduceSub, Nat.reduceBEq, bytI, rowsI, hm0, hk, hef, toNat3, rowV_take, rowV_drop, rowV_zero, rowV_app, rowV_app1, Nat.zero_min, Nat.min_self, lstC_row, maxLen, PV.fl, PT.fl, IV.fl, flatI, hbb, hLL, hee, z7, z9, hz] <;> (first | exact True.intro | (((try simp (disch := omega) only [seaWrap, Int.natCast_add, Int.cast_ofNat_Int, and_true, true_and, and_self]); (repeat' (first | exact True.intro | omega | rfl | (with_reducible assumption) | (with_reducible refine And.intro ?_ ?_) | (exact all_succ (by assumption) (by assumption)) | (exact wkC_same _ _) | (exact wkC_eq rfl (by simp [isIv]; done)) | (exact apK_s (by omega) (by omega)) | (((refine wkC_row _ fun j hj => ?_); (rcases (by omega : j < e ∨ j = e ∨ (e < j ∧ j < e + (r + 3)) ∨ j = e + (r + 3) ∨ e + (r + 3) < j) with h|h|h|h|h) <;> (first | (exfalso; omega) | (simp (disch := omega) only [if_pos, if_neg, ap1, ap2, apK, bV]; first | exact u8_eqv rfl | exact u8_eqv (congrArg b (by omega)) | exact u8_eqv (congrArg (formF r R) (by omega)) | exact IV.eqv_refl _)))) | (exact wr_snoc (i64_eqv (by unfold apS; rw [if_pos (by omega)]; omega)) (row_eqv64 fun j hj => by unfold apW; rw [if_pos (by omega)])))); done)) | (refine Stuck.out ?_)))
    | ((fail_if_success (with_reducible show AW _ _ _ _)); simp (maxSteps := 2000000) only [go_sem, reduceIte, reduceCtorEq, Nat.reduceAdd, Nat.reduceLT, Nat.reduceLeDiff, Nat.reduceEqDiff, Nat.reduceMul, Nat.reduceSub, Nat.reduceBEq, Try.f42, of_24_0, ty_22, sl_22, ar_22, ty_25, sl_25, ar_25, ty_5, in_3, ty_24, fnok_38, fnok_37, fnok_55, le_25, fnok_34, fnok_56, zc_86, fo_86, pl_86_0, pl_86_1, sl_67, bytI, rowsI, hm0, hk, hef, toNat3, rowV_take, rowV_drop, rowV_zero, rowV_app, rowV_app1, Nat.zero_min, Nat.min_self, lstC_row, maxLen, PV.fl, PT.fl, IV.fl, flatI, hbb, hLL, hee, z7, z9, hz])
    | ((fail_if_success (with_reducible show AW _ _ _ _)); simp (disch := omega) only [seaWrap, seaDiv, seaMod])
    | ((with_reducible refine hK _ ?_); clear hK K)
    | (with_reducible apply_assumption -exfalso only [*]))
  all_goals exact ⟨wr_end, fun i o hi ho => wr_fin (i64_eqv (by unfold apS; rw [if_neg (Nat.lt_irrefl _)]; omega)) (row_eqv64 fun j hj => by unfold apW; rw [if_neg (Nat.lt_irrefl _)]) hi ho⟩

set_option maxRecDepth 100000 in
set_option maxHeartbeats 4000000 in
theorem appends_eq (n : Nat) (m : Nat → Nat) (D : Nat → Nat → Int) (hs : Szd n m) (hD : BytD D) (k : Nat) (hk1 : k ≤ 1) (hk : D 0 0 = (k : Int)) (r : Nat) (R : Nat → Int) (hr : r ≤ 65535) (b : Nat → Int) (hbb : halfF n D k = b) (L : Nat) (hLL : hlf n * 64 = L) (e : Nat) (hee : endP b L = e) (hok : okP b L = true) (hfit : e + (r + 3) = L) : CallsP Try.prog 42 [.agg [.lst 1 (n) (rowsI (m) (D))], .one (.lst 1 (r) (bytI (R)))] (.tup [.one (.lst 2 (secsN e r L + 1) (wrI (apS (firstN n k) e (secsN e r L)) (apW b e r R (secsN e r L)))), .one (.g (.int .i64 (0)))]) := by
  have h3 := hs.h3
  have h64 := hs.h63
  have hl := hs.hlf
  have hm0 := hs.m 0 (by omega)
  have hm : ∀ i, i < n → m i ≤ 9223372036854775807 := fun i hi => by have := hs.m i hi; omega
  have hsz := hs.b
  have hd0 := hD 0 0
  have hd1 : ((k : Int) > 1) = False := eq_false (by omega)
  have hef := (endR_ok hok).trans hee
  have hfl := firstN_le (n := n) hk1
  have hB : Byt b := hbb ▸ hD.half n k
  have hlast : lastN e r L = min (e + (r + 3)) (L - 1) := rfl
  have hsec : secsN e r L = lastN e r L / 64 + 1 - e / 64 := rfl
  have hz : True := trivial
  have z7 : min e L = e := by omega
  have z9 : e + 1 + (L - (e + 1)) = L := by omega
  refine CallsP_of Try.func42 rfl (by rw [Try.ntmps42]; simp) ?_
  simp only [Try.ntmps42, List.map_cons, List.map_nil, PT.tv, argEnv, Nat.zero_add, Nat.reduceAdd]
  repeat' (first
    | (with_reducible refine AW_litG (c := Code.region 22 _ false) [2, 6, 7, 9, 14] [some [.iv (.lst 1 n (rowsI m D))], some (rowV (bV (ap2 b e r R)) L), some (rowV (wrC (apS (firstN n k) e (secsN e r L)) (apW b e r R (secsN e r L))) (secsN e r L * 2))] (GOk.nil _) ?_ ?_ (AW_regionP 22 [2, 6, 7, 9, 14] ?_))
    | (with_reducible refine AW_frz (c := Code.ret) [3] ?_ (AW_ret ?_))
    | (with_reducible refine AW_seq_k fun K hK => ?_)
    | ((first | (with_reducible refine And.intro ?_ ?_) | (with_reducible refine Need.mk ?_)); focus (first | exact True.intro | (with_reducible assumption) | omega | (refine ⟨?_, ?_⟩ <;> omega) | (intro _; first | exact True.intro | (with_reducible assumption) | omega) | (intros; (repeat' (first | exact True.intro | omega | (with_reducible assumption) | (with_reducible refine And.intro ?_ ?_))); done) | (simp (disch := omega) only [Bool.and_eq_true, Bool.or_eq_true, decide_eq_true_eq, bne_iff_ne, ne_eq] at *; first | done | omega | (intros; omega)) | (simp; done) | (simp; omega) | (simp +contextual; done) | (intro h; rw [h]; rfl) | (intros; simp_all; done)))
    | (with_reducible refine AW_skip ?_)
    | (with_reducible refine AW_exit ?_)
    | (with_reducible refine AW_ret ?_)
    | (with_reducible refine retK_n ?_)
    | (with_reducible refine retK_n' ?_)
    | (with_reducible refine retH_n rfl rfl rfl ?_)
    | (with_reducible refine retH_n' rfl rfl rfl ?_)
    | (with_reducible refine retO_n ?_ ?_)
    | (with_reducible refine retO_n' ?_ ?_)
    | (with_reducible refine AW_condI ?_)
    | (with_reducible refine AW_block ?_)
    | ((with_reducible refine condN_t ?_ ?_) <;> (intro hc; (try simp only [Bool.and_eq_true, Bool.or_eq_true, Bool.not_eq_true', Bool.and_eq_false_iff, Bool.or_eq_false_iff, decide_eq_true_eq, decide_eq_false_iff_not, bne_iff_ne, beq_iff_eq, reduceCtorEq, bne_eq_false_iff_eq, beq_eq_false_iff_ne, Bool.not_eq_false', Int.not_le, Int.not_lt, Bool.not_not] at hc); ((try (have y0 : e + (r + 3) < L := (by omega); have y1 : ((e : Int) + ((r + 3 : Nat) : Int) - 1 + 1).toNat = e + (r + 3) := (by omega); have y2 : min (e + (r + 3)) L = e + (r + 3) := (by omega); have y3 : e + (r + 3) + 1 + (L - (e + (r + 3) + 1)) = L := (by omega); clear hz; have hz := And.intro y1 (And.intro y2 y3))); (try (have y0 : i < r + 3 := (by omega); have y1 : min (e + i) L = e + i := (by omega); have y2 : e + i + 1 + (L - (e + i + 1)) = L := (by omega); clear hz; have hz := And.intro y1 y2)); (try (have e0 : i = r + 3 := (by omega); subst e0)); (try (have e0 : q = secsN e r L := (by omega); subst e0))); (try (exfalso; first | contradiction | omega))))
    | (with_reducible refine AW_regionP 0 [0, 1] ?_)
    | (with_reducible refine AW_regionP 1 [1, 2] ?_)
    | (with_reducible refine AW_regionP 2 [1, 2, 6] ?_)
    | (with_reducible refine AW_regionP 3 [1, 2, 6, 7] ?_)
    | (with_reducible refine AW_regionP 4 [1, 2, 6, 7, 9] ?_)
    | (with_reducible refine AW_regionP 5 [2, 6, 7, 9, 11] ?_)
    | (with_reducible refine AW_regionP 6 [] ?_)
    | (with_reducible refine AW_regionP 7 [2, 6, 7, 9, 11] ?_)
    | (with_reducible refine AW_regionP 8 [2, 6, 7, 9, 11, 12] ?_)
    | (with_reducible refine AW_regionP 9 [2, 6, 7, 9, 11, 12] ?_)
    | (with_reducible refine AW_regionP 10 [2, 6, 7, 9, 11, 12] ?_)
    | (with_reducible refine AW_regionP 11 [2, 6, 7, 9, 11] ?_)
    | (with_reducible refine AW_regionP 12 [2, 6, 7, 9, 13] ?_)
    | (with_reducible refine AW_regionP 13 [2, 6, 7, 9, 13] ?_)
    | (with_reducible refine AW_regionP 14 [2, 6, 7, 9, 13] ?_)
    | (with_reducible refine AW_regionP 15 [2, 6, 7, 9, 13] ?_)
    | (with_reducible refine AW_regionP 16 [2, 6, 7, 9, 13] ?_)
    | (with_reducible refine AW_regionP 17 [2, 6, 7, 9, 13, 14] ?_)
    | (with_reducible refine AW_regionP 18 [2, 6, 7, 9, 13, 14, 15] ?_)
    | (with_reducible refine AW_frz (c := Code.region 19 _ false) [3] ?_ (AW_regionP 19 [2, 6, 7, 9, 13, 14, 15] ?_))
    | (with_reducible refine AW_regionP 20 [2, 6, 7, 9, 13, 14, 15] ?_)
    | (with_reducible refine AW_regionP 21 [2, 6, 7, 9, 14] ?_)
    | (with_reducible refine AW_regionP 22 [2, 6, 7, 9, 14] ?_)
    | (with_reducible refine AW_regionP 23 [2, 6, 7, 14, 16] ?_)
    | (refine callN_q (k := 55) fnok_55 (rform_p r R (by omega)) ?_ ?_)
    | (refine callN_q (k := 34) fnok_34 (first_p n m D k (by omega) (by omega) (by omega)) ?_ ?_)
    | (refine callN_hpq (k := 38) fnok_38 (half_n n m D hs k hk1 _ 1 rfl) ?_ ?_)
    | (refine callN_hpq (k := 37) fnok_37 (ownArg1 (rparse_p L b (by omega) hB) 1 rfl) ?_ ?_)
    | (refine callN_hpq (k := 56) fnok_56 (ownArg2 (sector_o L (ap1 b e r R) (e / 64 + q) (by omega) (by omega)) 1 3 rfl rfl) ?_ ?_)
    | (refine callN_hpq (k := 56) fnok_56 (ownArg2 (sector_o L (ap2 b e r R) (e / 64) (by omega) (by omega)) 1 3 rfl rfl) ?_ ?_)
    | ((with_reducible refine AW_loopQ (c := (Code.seq (Code.seq (Code.region 8 _ _) _) _)) (ι := Nat) [2, 6, 7, 9, 11] (fun i => [(12, iA .i64 (i : Int))]) (fun i => [(1, rowV (bV (apK b e r R i)) L)]) (fun i => 1 ≤ i ∧ i ≤ r + 3) (fun i => r + 3 - i) 1 ?lg8 ?l18 ?l28 ?li8 ?lr8); (case' lg8 => rintro i _); (case' li8 => try (exact ⟨Nat.le_refl _, by omega⟩)); (case' lr8 => rintro i ⟨hi0, hi⟩ KR hR8; skip; simp only [keepE, hupd, hset, lk, if_true, if_false, Nat.reduceEqDiff, reduceIte, List.cons_append, List.nil_append, bytI, rowsI, hm0, hk, hef, toNat3, rowV_take, rowV_drop, rowV_zero, rowV_app, rowV_app1, Nat.zero_min, Nat.min_self, lstC_row, maxLen, PV.fl, PT.fl, IV.fl, flatI, hbb, hLL, hee, z7, z9, hz]))
    | ((with_reducible refine hR8 _ (i + 1) ?_); (try clear hR8 KR))
    | ((with_reducible refine AW_loopQ (c := (Code.seq (Code.seq (Code.region 18 _ _) _) _)) (ι := Nat) [2, 6, 7, 9, 13] (fun q => [(14, .t (.one (.slc 2 0 q 2))), (15, iA .i64 ((e / 64 + q : Nat) : Int))]) (fun q => [(1, rowV (bV (ap1 b e r R)) L), (2, rowV (wrC (apS (firstN n k) e (secsN e r L)) (apW b e r R (secsN e r L))) (q * 2))]) (fun q => q ≤ secsN e r L) (fun q => secsN e r L - q) 0 ?lg18 ?l118 ?l218 ?li18 ?lr18); (case' lg18 => rintro q _); (case' li18 => try (first | trivial | omega | (simp; done) | (simp; omega))); (case' lr18 => rintro q hq KR hR18; skip; simp only [keepE, hupd, hset, lk, if_true, if_false, Nat.reduceEqDiff, reduceIte, List.cons_append, List.nil_append, bytI, rowsI, hm0, hk, hef, toNat3, rowV_take, rowV_drop, rowV_zero, rowV_app, rowV_app1, Nat.zero_min, Nat.min_self, lstC_row, maxLen, PV.fl, PT.fl, IV.fl, flatI, hbb, hLL, hee, z7, z9, hz]))
    | ((with_reducible refine hR18 _ (q + 1) ?_); (try clear hR18 KR))
    | ((with_reducible refine Told.mk ?_); simp only [go_sem, reduceIte, reduceCtorEq, Nat.reduceAdd, Nat.reduceLT, Nat.reduceLeDiff, Nat.reduceEqDiff, Nat.reduceMul, Nat.reduceSub, Nat.reduceBEq, bytI, rowsI, hm0, hk, hef, toNat3, rowV_take, rowV_drop, rowV_zero, rowV_app, rowV_app1, Nat.zero_min, Nat.min_self, lstC_row, maxLen, PV.fl, PT.fl, IV.fl, flatI, hbb, hLL, hee, z7, z9, hz] <;> (first | exact True.intro | (((try simp (disch := omega) only [seaWrap, Int.natCast_add, Int.cast_ofNat_Int, and_true, true_and, and_self]); (repeat' (first | exact True.intro | omega | rfl | (with_reducible assumption) | (with_reducible refine And.intro ?_ ?_) | (exact all_succ (by assumption) (by assumption)) | (exact wkC_same _ _) | (exact wkC_eq rfl (by simp [isIv]; done)) | (exact apK_s (by omega) (by omega)) | (((refine wkC_row _ fun j hj => ?_); (rcases (by omega : j < e ∨ j = e ∨ (e < j ∧ j < e + (r + 3)) ∨ j = e + (r + 3) ∨ e + (r + 3) < j) with h|h|h|h|h) <;> (first | (exfalso; omega) | (simp (disch := omega) only [if_pos, if_neg, ap1, ap2, apK, bV]; first | exact u8_eqv rfl | exact u8_eqv (congrArg b (by omega)) | exact u8_eqv (congrArg (formF r R) (by omega)) | exact IV.eqv_refl _)))) | (exact wr_snoc (i64_eqv (by unfold apS; rw [if_pos (by omega)]; omega)) (row_eqv64 fun j hj => by unfold apW; rw [if_pos (by omega)])))); done)) | (refine Stuck.out ?_)))
    | ((fail_if_success (with_reducible show AW _ _ _ _)); simp (maxSteps := 2000000) only [go_sem, reduceIte, reduceCtorEq, Nat.reduceAdd, Nat.reduceLT, Nat.reduceLeDiff, Nat.reduceEqDiff, Nat.reduceMul, Nat.reduceSub, Nat.reduceBEq, Try.f42, of_24_0, ty_22, sl_22, ar_22, ty_25, sl_25, ar_25, ty_5, in_3, ty_24, fnok_38, fnok_37, fnok_55, le_25, fnok_34, fnok_56, zc_86, fo_86, pl_86_0, pl_86_1, sl_67, bytI, rowsI, hm0, hk, hef, toNat3, rowV_take, rowV_drop, rowV_zero, rowV_app, rowV_app1, Nat.zero_min, Nat.min_self, lstC_row, maxLen, PV.fl, PT.fl, IV.fl, flatI, hbb, hLL, hee, z7, z9, hz])
    | ((fail_if_success (with_reducible show AW _ _ _ _)); simp (disch := omega) only [seaWrap, seaDiv, seaMod])
    | ((with_reducible refine hK _ ?_); clear hK K)
    | (with_reducible apply_assumption -exfalso only [*]))
  all_goals exact ⟨wr_end, fun i o hi ho => wr_fin (i64_eqv (by unfold apS; rw [if_neg (Nat.lt_irrefl _)]; omega)) (row_eqv64 fun j hj => by unfold apW; rw [if_neg (Nat.lt_irrefl _)]) hi ho⟩

end Go.Proofs.Ytifoncmlelinjaa
