/- M: walks on abstract states. -/
import Derived.Test.YtifoncmlelinjaaL
set_option linter.unusedVariables false
set_option linter.unusedSimpArgs false
namespace Go.Proofs.Ytifoncmlelinjaa
open Go.RowKit Go.Sea
attribute [local go_sem] callK_N gf gk gdrop lkL setL lsF ltAll rdyL bodyF roundQ roundS loopQ loopS jumpOf inLs yV yA bAV zipPut purgeG_nil purgeG_cons List.tail_cons Option.isNone_none Option.isNone_some callGK_f callDK_f callDGK_f retN retHN blockA arun_nil arun_plain arun_guard plainF guardF guardB arunD_nil arunD_plain arunD_guard plainDF guardDF guardDB AS.ent Eff.noApp Eff.tgt ftF AV.refs TV.refs CV.refs LV.refs Op.operands Call.operands List.append_toArray List.push_toArray List.flatMap_cons List.flatMap_nil List.toList_toArray Option.toArray nidF nidA List.reverse_cons List.reverse_nil opF AS.ev constA lk AS.get AV.tv AV.nd AS.eff AS.put argEnv PT.tv PV.av AV.mbOf hset hget TV.cells dstOk thenA gB isB toB TV.bool? TV.int? intF loadF storeF fieldF indexF lenF sliceF optI appF minmaxF fillF partsF lvsF TV.lv LV.tv purgeE purgeC purgeH AV.purge CV.purge AV.has TV.has CV.has LV.has calleeF argsF tvsF toPT toIV toIVs toPTs toPV iA bA List.map_cons List.map_nil List.length_nil List.length_cons List.getElem?_cons_zero List.getElem?_cons_succ List.getElem?_nil Option.getD_some Option.getD_none Option.bind_some Option.bind_none List.take_succ_cons List.take_zero List.drop_succ_cons List.drop_zero List.take_nil List.drop_nil List.cons_append List.nil_append List.append_nil List.getD_cons_zero List.getD_cons_succ Option.map_some Option.map_none Option.isSome_some Option.isSome_none List.size_toArray List.any_cons List.any_nil List.mem_cons if_true if_false ite_true ite_false cond_true cond_false Nat.zero_add Nat.add_zero Nat.sub_zero Nat.le_refl Nat.zero_mul Nat.mul_zero Nat.one_mul Nat.mul_one Int.toNat_zero Int.toNat_natCast Bool.or_false Bool.false_or Bool.or_true Bool.true_or Bool.and_true Bool.true_and Bool.and_false Bool.false_and beq_self_eq_true beq_true beq_false Bool.not_true Bool.not_false and_true true_and and_false false_and and_self imp_self Bool.cond_false_right Bool.cond_true_left implies_true forall_const true_implies false_implies Option.some.injEq Prod.mk.injEq ne_eq not_false_eq_true not_true_eq_false eq_self Nat.lt_irrefl Nat.not_lt_zero op2F ncF slice3F offF slArrF copyF clearF toArrF callDK_t calleeT eqN barOp boF seaMin seaMax seaNat1 seaNat2 Value.bool.injEq Value.int.injEq srcF TV.dp IV.eqv PT.eqv PV.eqv All2 keepE hupd callZ_N AS.frz AS.frzW frzs frzsOk frzOk frzE frzA frzT frzC frzG frzH hdel cmpS eqF eqC gvs eqVs eqV decide_true resF tupA inlQ okL okGL okG nextL nextF barOpN AS.mv mvE mvG_nil mvG_cons mvH mvO AV.mv TV.mv CV.mv LV.mv famL_mv famL_purge famL_snoc famL_zero wkH wkC wkV nilA nilC AV.ok TV.ok CV.ok LV.ok okB forall_eq_or_imp forall_eq List.not_mem_nil List.mem_singleton true_or or_true or_false false_or or_self exists_prop AV.t.injEq TV.one.injEq CV.iv.injEq IV.g.injEq TV.agg.injEq List.cons.injEq repC_0 repC_1 repC_2 repC_3 rowV_len rowV_pur rowV_has rowV_frz frzC isIv_iv civ_iv rowV_all List.map_append retON AV.to TV.to CV.to
theorem fnok_13 : fnOk Try.prog 13 = true := by kernel_rfl
theorem fnok_31 : fnOk Try.prog 31 = true := by kernel_rfl
theorem fnok_50 : fnOk Try.prog 50 = true := by kernel_rfl
theorem zc_3 : zeroC Try.prog 3 = some [.iv (.g (.int .i64 0))] := by kernel_rfl

def encP (m : Nat → Nat) : Nat → Nat
  | 0 => 0
  | k + 1 => encP m k + (m k + 3)
def encB (m : Nat → Nat) (D : Nat → Nat → Int) : Nat → Nat → Int
  | 0, _ => 0
  | k + 1, p => if encP m k ≤ p then formF (m k) (D k) (p - encP m k) else encB m D k p
/-- The bytes of a half with the records. -/
def cmpF (m : Nat → Nat) (D : Nat → Nat → Int) (k p : Nat) : Int := if p < encP m k then encB m D k p else 0
theorem ipCells_row (c : Nat → IV) : ∀ n k, ipCells c n k = rowV (fun j => c (k + j)) n
  | 0, k => rfl
  | n + 1, k => by
    rw [ipCells, ipCells_row c n (k + 1), rowV_cons]
    refine rowV_congr fun j hj => ?_
    by_cases h : j = 0
    · subst h; rfl
    · rw [if_neg h, show k + 1 + (j - 1) = k + j by omega]
theorem sw_facts (D : Nat → Nat → Int) (af n w : Nat) (h : 0 < n) (hw : w = min af 64) :
    (rowsC 32 n).getD 0 .any = .slc 32 0 64 1 ∧ (min (af : Int) 64).toNat = w ∧ min w 64 = w ∧ min 64 w = w ∧ w + (64 - w) = 64 ∧
    (famL (fun k j => .g (.int .u8 (D k j))) n)[0]? = some (some (rowV (fun j => .g (.int .u8 (D 0 j))) 64)) ∧
    ∀ g, hset (famL (fun k j => .g (.int .u8 (D k j))) n) 0 (rowV g 64) = famL (updF (fun k j => .g (.int .u8 (D k j))) 0 g) n :=
  ⟨rowsC_get h, by omega, by omega, by omega, by omega, famL_at h, fun g => famL_set h g⟩
/-- The first sector, with the other half's number. -/
def sw0 (D : Nat → Nat → Int) (v : Int) (p : Nat) : Int := if p = 0 then v else D 0 p

theorem enc_snoc (m : Nat → Nat) (D : Nat → Nat → Int) (k : Nat) : rowV (bV (encB m D k)) (encP m k) ++ rowV (bV (formF (m k) (D k))) (m k + 3) = rowV (bV (encB m D (k + 1))) (encP m k + (m k + 3)) := by
  rw [rowV_app]
  refine rowV_congr fun j hj => ?_
  by_cases h : j < encP m k
  · rw [if_pos h]; simp only [bV, encB]; rw [if_neg (by omega)]
  · rw [if_neg h]; simp only [bV, encB]; rw [if_pos (by omega)]
theorem encP_mono (m : Nat → Nat) : ∀ a b, a ≤ b → encP m a ≤ encP m b
  | a, 0, h => by obtain rfl : a = 0 := by omega
                  exact Nat.le_refl _
  | a, b + 1, h => by
    by_cases e : a = b + 1
    · rw [e]; exact Nat.le_refl _
    · have := encP_mono m a b (by omega); simp only [encP]; omega
theorem encP_bd (m : Nat → Nat) : ∀ k, (∀ i, i < k → m i ≤ 65535) → encP m k ≤ k * 65538
  | 0, _ => Nat.le_refl _
  | k + 1, h => by
    have := encP_bd m k fun i hi => h i (by omega)
    have := h k (by omega)
    simp only [encP]; omega
theorem of_q (n : Nat) (m : Nat → Nat) (D : Nat → Nat → Int) (hs : Szd n m) (k : Nat) (hk1 : k ≤ 1) (L : Nat) (hL : hlf n * 64 = L) : CallsN Try.prog 47 [.agg [.iv (.lst 1 n (rowsI m D))], .one (.iv (.g (.int .i64 (1 - (k : Int)))))] (rowV (bV (halfF n D (1 - k))) L) (fun i => .t (.agg [.iv (.g (.int .i64 (firstN n (1 - k) : Int))), .slc i 0 L 1, .iv (.g (.int .i64 0))])) := by
  have h := of_n n m D hs (1 - k) (by omega)
  rw [hL, show ((1 - k : Nat) : Int) = 1 - (k : Int) by omega] at h
  exact h
def cmpOk (n : Nat) (m : Nat → Nat) (D : Nat → Nat → Int) (n' : Nat) (m' : Nat → Nat) (af : Int) : Bool := vB n m D && !anyB n' (longB m') && decide (0 ≤ af)
def cmpE (n : Nat) (m : Nat → Nat) (D : Nat → Nat → Int) (n' : Nat) (m' : Nat → Nat) (af : Int) : Int := if cmpOk n m D n' m' af = true then (if encP m' n' ≤ hlf n * 64 then 0 else 17) else 1
def cmpN (n : Nat) (m : Nat → Nat) (D : Nat → Nat → Int) (n' : Nat) (m' : Nat → Nat) (af : Int) : Nat := if cmpE n m D n' m' af = 0 then n else 0
/-- The sectors behind a compaction. -/
def cmpD (n : Nat) (D : Nat → Nat → Int) (n' : Nat) (m' : Nat → Nat) (D' : Nat → Nat → Int) (af : Nat) : Nat → Nat → Int :=
  wrR (wrR D (cmpF m' D' n') (firstN n (1 - (D 0 0).toNat)) 0 af (hlf n)) (sw0 D (1 - D 0 0)) 0 0 (af - hlf n * 64) 1
theorem sw_wk {n : Nat} {D : Nat → Nat → Int} {n' : Nat} {m' : Nat → Nat} {D' : Nat → Nat → Int} {k L w u j af : Nat} (hk : D 0 0 = (k : Int)) (hk1 : k ≤ 1) (hL : hlf n * 64 = L) (h1 : 1 ≤ hlf n) (hw : w = min (af - ((L - 1) / 64 + 1 - 0 / 64) * 64) 64) (hj : j < 64) :
    (updF (fun k_1 j => IV.g (Value.int IntKind.u8 (wrR D (cmpF m' D' n') (firstN n (1 - k) + 0 / 64) (0 / 64) af ((L - 1) / 64 + 1 - 0 / 64) k_1 j))) 0 (fun j => if j < w then if j = 0 then IV.g (Value.int IntKind.u8 ((1 - (k : Int)) % 256)) else IV.g (Value.int IntKind.u8 (D 0 (1 + (j - 1)))) else IV.g (Value.int IntKind.u8 (wrR D (cmpF m' D' n') (firstN n (1 - k) + 0 / 64) (0 / 64) af ((L - 1) / 64 + 1 - 0 / 64) 0 (w + (j - w))))) u j).eqv (.g (.int .u8 (cmpD n D n' m' D' af u j))) := by
  have e1 : (L - 1) / 64 + 1 - 0 / 64 = hlf n := by omega
  rw [e1] at hw ⊢
  have e2 : (D 0 0).toNat = k := by omega
  unfold cmpD
  rw [e2, hk, Nat.zero_div, Nat.add_zero]
  unfold updF
  by_cases hu : u = 0
  · subst hu
    rw [if_pos rfl]
    by_cases h : j < w
    · rw [if_pos h]
      have e3 : wrR (wrR D (cmpF m' D' n') (firstN n (1 - k)) 0 af (hlf n)) (sw0 D (1 - (k : Int))) 0 0 (af - hlf n * 64) 1 0 j = sw0 D (1 - (k : Int)) j := by
        generalize wrR D (cmpF m' D' n') (firstN n (1 - k)) 0 af (hlf n) = X
        unfold wrR
        rw [if_pos (by omega)]
        congr 1; omega
      rw [e3]
      unfold sw0
      by_cases h0 : j = 0
      · rw [if_pos h0, if_pos h0]
        exact u8_eqv (by omega)
      · rw [if_neg h0, if_neg h0]
        exact u8_eqv (by congr 1; omega)
    · rw [if_neg h]
      refine u8_eqv ?_
      generalize wrR D (cmpF m' D' n') (firstN n (1 - k)) 0 af (hlf n) = X
      unfold wrR
      rw [if_neg (by omega)]
      congr 1; omega
  · rw [if_neg hu]
    refine u8_eqv ?_
    generalize wrR D (cmpF m' D' n') (firstN n (1 - k)) 0 af (hlf n) = X
    unfold wrR
    rw [if_neg (by omega)]
theorem cmp_no {n : Nat} {m : Nat → Nat} {D : Nat → Nat → Int} {n' : Nat} {m' : Nat → Nat} {af : Int} (h : cmpOk n m D n' m' af = false) : cmpE n m D n' m' af = 1 ∧ cmpN n m D n' m' af = 0 := by
  have e : cmpE n m D n' m' af = 1 := by unfold cmpE; rw [h]; rfl
  refine ⟨e, ?_⟩
  unfold cmpN; rw [e]; rfl

set_option maxRecDepth 100000 in
set_option maxHeartbeats 4000000 in
theorem cc_bad (n : Nat) (m : Nat → Nat) (D : Nat → Nat → Int) (hn : n ≤ 9223372036854775807) (hm : ∀ i, i < n → m i ≤ 9223372036854775807) (hD : BytD D) (n' : Nat) (m' : Nat → Nat) (D' : Nat → Nat → Int) (hn' : n' ≤ 9223372036854775807) (hm' : ∀ i, i < n' → m' i ≤ 9223372036854775807) (af : Int) (haf : -9223372036854775808 ≤ af ∧ af ≤ 9223372036854775807) (hc : cmpOk n m D n' m' af = false) : CallsP Try.prog 31 [.agg [.lst 1 (n) (rowsI (m) (D))], .one (.lst 1 (n') (rowsI (m') (D'))), .one (.g (.int .i64 (af)))] (.tup [.agg [.lst 1 (cmpN n m D n' m' af) (rowsI (c64) (cmpD n D n' m' D' af.toNat))], .one (.g (.int .i64 (cmpE n m D n' m' af)))]) := by
  have hcut := cmp_no hc
  have hbad : vB n m D = true → anyB n' (longB m') = false → ¬ 0 ≤ af := by
    intro h1 h2 h3
    unfold cmpOk at hc
    rw [h1, h2, decide_eq_true h3] at hc
    cases hc
  refine CallsP_of Try.func31 rfl (by rw [Try.ntmps31]; simp) ?_
  simp only [Try.ntmps31, List.map_cons, List.map_nil, PT.tv, argEnv, Nat.zero_add, Nat.reduceAdd]
  repeat' (first
    | (with_reducible refine AW_seq_k fun K hK => ?_)
    | ((first | (with_reducible refine And.intro ?_ ?_) | (with_reducible refine Need.mk ?_)); focus (first | exact True.intro | (with_reducible assumption) | omega | (refine ⟨?_, ?_⟩ <;> omega) | (intro _; first | exact True.intro | (with_reducible assumption) | omega) | (intros; (repeat' (first | exact True.intro | omega | (with_reducible assumption) | (with_reducible refine And.intro ?_ ?_))); done) | (simp (disch := omega) only [Bool.and_eq_true, Bool.or_eq_true, decide_eq_true_eq, bne_iff_ne, ne_eq] at *; first | done | omega | (intros; omega)) | (simp; done) | (simp; omega) | (simp +contextual; done) | (intro h; rw [h]; rfl) | (intros; simp_all; done)))
    | (with_reducible refine AW_skip ?_)
    | (with_reducible refine AW_exit ?_)
    | (with_reducible refine AW_ret ?_)
    | (with_reducible refine retK_n ?_)
    | (with_reducible refine retK_n' ?_)
    | (with_reducible refine retH_n rfl rfl rfl ?_)
    | (with_reducible refine retH_n' rfl rfl rfl ?_)
    | (with_reducible refine retO_n ?_ ?_)
    | (with_reducible refine retO_n' ?_ ?_)
    | (with_reducible refine AW_condI ?_)
    | (with_reducible refine AW_block ?_)
    | ((with_reducible refine condN_t ?_ ?_) <;> (intro hc; (try simp only [Bool.and_eq_true, Bool.or_eq_true, Bool.not_eq_true', Bool.and_eq_false_iff, Bool.or_eq_false_iff, decide_eq_true_eq, decide_eq_false_iff_not, bne_iff_ne, beq_iff_eq, reduceCtorEq, bne_eq_false_iff_eq, beq_eq_false_iff_ne, Bool.not_eq_false', Int.not_le, Int.not_lt, Bool.not_not] at hc); ((try (exfalso; exact hbad hc.1.1 hc.1.2 (by omega)))); (try (exfalso; first | contradiction | omega))))
    | (with_reducible refine AW_regionP 0 [0, 1, 2] ?_)
    | (with_reducible refine AW_regionP 1 [1, 2, 3, 6] ?_)
    | (with_reducible refine AW_regionP 2 [1, 2, 3, 6, 8] ?_)
    | (with_reducible refine AW_regionP 3 [6] ?_)
    | (with_reducible refine AW_regionP 4 [1, 2, 3, 6] ?_)
    | (with_reducible refine AW_regionP 5 [1, 2, 3, 6, 9] ?_)
    | (with_reducible refine AW_regionP 6 [2, 3, 6, 9, 28, 29, 30] ?_)
    | (with_reducible refine AW_regionP 7 [2, 3, 6, 9, 28, 29, 30] ?_)
    | (with_reducible refine AW_regionP 8 [2, 3, 6, 9, 11, 28, 29, 30] ?_)
    | (with_reducible refine AW_regionP 9 [2, 3, 6, 9, 28, 29, 30] ?_)
    | (with_reducible refine AW_regionP 10 [2, 3, 6, 9] ?_)
    | (with_reducible refine AW_regionP 11 [2, 3, 6, 9, 12] ?_)
    | (with_reducible refine AW_regionP 12 [2, 3, 6, 9, 12, 13] ?_)
    | (with_reducible refine AW_regionP 13 [6] ?_)
    | ((with_reducible refine AW_prune (c := Code.region 14 _ true) [2, 3, 6, 9, 12, 13] ?_); (with_reducible refine AW_regionD ?_ ?_ ?_ ?_); (focus kernel_rfl); (focus kernel_rfl); (focus kernel_rfl))
    | (with_reducible refine AW_regionP 15 [2, 3, 6, 12, 13] ?_)
    | (with_reducible refine AW_regionP 16 [3, 6, 12, 13, 14] ?_)
    | (with_reducible refine AW_regionP 17 [3, 6, 12, 14] ?_)
    | (with_reducible refine AW_regionP 18 [6, 14] ?_)
    | ((with_reducible refine And.intro ?_ ?_); focus ((with_reducible show chkR _ _ _ = true); kernel_rfl))
    | (refine callN_q (k := 13) fnok_13 (valid_p n m D hn hm hD) ?_ ?_)
    | (refine callGN_q (k := 45) fnok_45 (fun hg => hasLong_p n' m' D' hn' hm') ?_ ?_)
    | ((fail_if_success (with_reducible show AW _ _ _ _)); simp (maxSteps := 2000000) only [go_sem, reduceIte, reduceCtorEq, Nat.reduceAdd, Nat.reduceLT, Nat.reduceLeDiff, Nat.reduceEqDiff, Nat.reduceMul, Nat.reduceSub, Nat.reduceBEq, Try.f31, zc_24, ty_24, fnok_13, fnok_45, fo_24, le_22, sl_22, ar_22, ty_25, fnok_46, sl_25, of_24_0, ty_22, ar_25, ty_5, in_3, zc_3, ty_3, fnok_47, zc_55, ty_55, le_25, of_55_1, zc_5, fnok_39, fnok_49, fnok_48, of_65_0, bytI, rowsI])
    | ((fail_if_success (with_reducible show AW _ _ _ _)); simp (disch := omega) only [seaWrap, seaDiv, seaMod])
    | ((with_reducible refine hK _ ?_); clear hK K))
  all_goals (first | (simp only [hcut.1, hcut.2]; done) | (simp only [hcut.1, hcut.2]; first | exact ⟨rfl, rfl⟩ | exact ⟨⟨rfl, rfl⟩, rfl⟩ | exact ⟨trivial, trivial⟩ | rfl))

set_option maxRecDepth 100000 in
set_option maxHeartbeats 4000000 in
theorem cc_full (n : Nat) (m : Nat → Nat) (D : Nat → Nat → Int) (hs : Szd n m) (hD : BytD D) (k : Nat) (hk1 : k ≤ 1) (hk : D 0 0 = (k : Int)) (hok : okP (halfF n D k) (hlf n * 64) = true) (n' : Nat) (m' : Nat → Nat) (D' : Nat → Nat → Int) (hn' : n' ≤ 100) (hm' : ∀ i, i < n' → m' i ≤ 65535) (af : Int) (haf : -9223372036854775808 ≤ af ∧ af ≤ 9223372036854775807) (h0 : 0 ≤ af) (L : Nat) (hL : hlf n * 64 = L) (hfull : ¬ encP m' n' ≤ hlf n * 64) : CallsP Try.prog 31 [.agg [.lst 1 (n) (rowsI (m) (D))], .one (.lst 1 (n') (rowsI (m') (D'))), .one (.g (.int .i64 (af)))] (.tup [.agg [.lst 1 (cmpN n m D n' m' af) (rowsI (c64) (cmpD n D n' m' D' af.toNat))], .one (.g (.int .i64 (cmpE n m D n' m' af)))]) := by
  have h3 := hs.h3
  have h64 := hs.h63
  have hl := hs.hlf
  have hm0 := hs.m 0 (by omega)
  have hm : ∀ i, i < n → m i ≤ 9223372036854775807 := fun i hi => by have := hs.m i hi; omega
  have hsz := hs.b
  have hd0 := hD 0 0
  have hd1 : ((k : Int) > 1) = False := eq_false (by omega)
  have hv_ := vB_ok hs hk1 hk
  have hvt : vB n m D = true := hv_.trans hok
  have hb1 := encP_bd m' n' hm'
  have hmm : ∀ i, i < n' → m' i ≤ 9223372036854775807 := fun i hi => by have := hm' i hi; omega
  have hfl := firstN_le (n := n) (show 1 - k ≤ 1 by omega)
  have hlong : anyB n' (longB m') = false := by
    unfold anyB longB
    refine decide_eq_false fun ⟨i, hi, h⟩ => ?_
    have := hm' i hi
    have := of_decide_eq_true h
    omega
  have hk0 : ((1 - k : Nat) : Int) = 1 - (k : Int) := by omega
  have hL1 : ((L - 1 : Nat) : Int) = (L : Int) - 1 := by omega
  have haf0 : ((af.toNat : Nat) : Int) = af := by omega
  have hcok : cmpOk n m D n' m' af = true := by unfold cmpOk; rw [hvt, hlong, decide_eq_true h0]; rfl
  have hcut : cmpE n m D n' m' af = 17 ∧ cmpN n m D n' m' af = 0 := by
    have e : cmpE n m D n' m' af = 17 := by unfold cmpE; rw [hcok, if_pos rfl, if_neg hfull]
    refine ⟨e, ?_⟩
    unfold cmpN; rw [e]; rfl
  refine CallsP_of Try.func31 rfl (by rw [Try.ntmps31]; simp) ?_
  simp only [Try.ntmps31, List.map_cons, List.map_nil, PT.tv, argEnv, Nat.zero_add, Nat.reduceAdd]
  repeat' (first
    | (with_reducible refine AW_seq_k fun K hK => ?_)
    | ((first | (with_reducible refine And.intro ?_ ?_) | (with_reducible refine Need.mk ?_)); focus (first | exact True.intro | (with_reducible assumption) | omega | (refine ⟨?_, ?_⟩ <;> omega) | (intro _; first | exact True.intro | (with_reducible assumption) | omega) | (intros; (repeat' (first | exact True.intro | omega | (with_reducible assumption) | (with_reducible refine And.intro ?_ ?_))); done) | (simp (disch := omega) only [Bool.and_eq_true, Bool.or_eq_true, decide_eq_true_eq, bne_iff_ne, ne_eq] at *; first | done | omega | (intros; omega)) | (simp; done) | (simp; omega) | (simp +contextual; done) | (intro h; rw [h]; rfl) | (intros; simp_all; done)))
    | (with_reducible refine AW_skip ?_)
    | (with_reducible refine AW_exit ?_)
    | (with_reducible refine AW_ret ?_)
    | (with_reducible refine retK_n ?_)
    | (with_reducible refine retK_n' ?_)
    | (with_reducible refine retH_n rfl rfl rfl ?_)
    | (with_reducible refine retH_n' rfl rfl rfl ?_)
    | (with_reducible refine retO_n ?_ ?_)
    | (with_reducible refine retO_n' ?_ ?_)
    | (with_reducible refine AW_condI ?_)
    | (with_reducible refine AW_block ?_)
    | ((with_reducible refine condN_t ?_ ?_) <;> (intro hc; (try simp only [Bool.and_eq_true, Bool.or_eq_true, Bool.not_eq_true', Bool.and_eq_false_iff, Bool.or_eq_false_iff, decide_eq_true_eq, decide_eq_false_iff_not, bne_iff_ne, beq_iff_eq, reduceCtorEq, bne_eq_false_iff_eq, beq_eq_false_iff_ne, Bool.not_eq_false', Int.not_le, Int.not_lt, Bool.not_not] at hc); ((try (have e0 : n' = q := (by omega); subst e0))); (try (exfalso; first | contradiction | omega))))
    | (with_reducible refine AW_regionP 0 [0, 1, 2] ?_)
    | (with_reducible refine AW_regionP 1 [1, 2, 3, 6] ?_)
    | (with_reducible refine AW_regionP 2 [1, 2, 3, 6, 8] ?_)
    | (with_reducible refine AW_regionP 3 [6] ?_)
    | (with_reducible refine AW_regionP 4 [1, 2, 3, 6] ?_)
    | (with_reducible refine AW_regionP 5 [1, 2, 3, 6, 9] ?_)
    | (with_reducible refine AW_regionP 6 [2, 3, 6, 9, 28, 29, 30] ?_)
    | (with_reducible refine AW_regionP 7 [2, 3, 6, 9, 28, 29, 30] ?_)
    | (with_reducible refine AW_regionP 8 [2, 3, 6, 9, 11, 28, 29, 30] ?_)
    | (with_reducible refine AW_regionP 9 [2, 3, 6, 9, 28, 29, 30] ?_)
    | (with_reducible refine AW_regionP 10 [2, 3, 6, 9] ?_)
    | (with_reducible refine AW_regionP 11 [2, 3, 6, 9, 12] ?_)
    | (with_reducible refine AW_regionP 12 [2, 3, 6, 9, 12, 13] ?_)
    | (with_reducible refine AW_regionP 13 [6] ?_)
    | ((with_reducible refine AW_prune (c := Code.region 14 _ true) [2, 3, 6, 9, 12, 13] ?_); (with_reducible refine AW_regionD ?_ ?_ ?_ ?_); (focus kernel_rfl); (focus kernel_rfl); (focus kernel_rfl))
    | (with_reducible refine AW_regionP 15 [2, 3, 6, 12, 13] ?_)
    | (with_reducible refine AW_regionP 16 [3, 6, 12, 13, 14] ?_)
    | (with_reducible refine AW_regionP 17 [3, 6, 12, 14] ?_)
    | (with_reducible refine AW_regionP 18 [6, 14] ?_)
    | ((with_reducible refine And.intro ?_ ?_); focus ((with_reducible show chkR _ _ _ = true); kernel_rfl))
    | (refine callN_q (k := 13) fnok_13 (valid_p n m D (by omega) hm hD) ?_ ?_)
    | (refine callGN_q (k := 45) fnok_45 (fun hg => hasLong_p n' m' D' (by omega) hmm) ?_ ?_)
    | (refine callN_q (k := 46) fnok_46 (form_p (m' k_1) (D' k_1) (by have := hm' k_1; omega)) ?_ ?_)
    | (refine callN_q (k := 46) fnok_46 (form_p (m' q) (D' q) (by have := hm' q; omega)) ?_ ?_)
    | (refine callN_hpq (k := 47) fnok_47 (of_q n m D hs k hk1 L hL _ 4 rfl) ?_ ?_)
    | ((with_reducible refine AW_loopQ (c := (Code.seq (Code.region 6 _ _) _)) (ι := Nat) [2, 3, 6, 28, 29] (fun q => [(30, iA .i64 (q : Int)), (9, .t (.one (.slc 2 0 (encP m' q) 1)))]) (fun q => [(2, rowV (bV (encB m' D' q)) (encP m' q))]) (fun q => q ≤ n') (fun q => n' - q) 0 ?lg6 ?l16 ?l26 ?li6 ?lr6); (case' lg6 => rintro q _); (case' li6 => try (first | trivial | omega | (simp; done) | (simp; omega))); (case' lr6 => rintro q hq KR hR6; have hmq := hm' q; have hb3 := encP_mono m' q n' hq; have hb4 : q < n' → encP m' (q + 1) ≤ encP m' n' := (fun h => encP_mono m' (q + 1) n' (by omega)); have hb5 : encP m' (q + 1) = encP m' q + (m' q + 3) := rfl; simp only [keepE, hupd, hset, lk, if_true, if_false, Nat.reduceEqDiff, reduceIte, List.cons_append, List.nil_append, bytI, rowsI, hvt, hlong, hm0, hk, rowV_take, rowV_drop, rowV_zero, rowV_app, Nat.zero_min, Nat.min_self, lstC_row, maxLen, hL]))
    | ((with_reducible refine hR6 _ (q + 1) ?_); (try clear hR6 KR))
    | ((with_reducible refine Told.mk ?_); simp only [go_sem, reduceIte, reduceCtorEq, Nat.reduceAdd, Nat.reduceLT, Nat.reduceLeDiff, Nat.reduceEqDiff, Nat.reduceMul, Nat.reduceSub, Nat.reduceBEq, bytI, rowsI, hvt, hlong, hm0, hk, rowV_take, rowV_drop, rowV_zero, rowV_app, Nat.zero_min, Nat.min_self, lstC_row, maxLen, hL] <;> (first | exact True.intro | (((try simp (disch := omega) only [seaWrap, Int.natCast_add, Int.cast_ofNat_Int, and_true, true_and, and_self]); (repeat' (first | exact True.intro | omega | rfl | (with_reducible assumption) | (with_reducible refine And.intro ?_ ?_) | (exact all_succ (by assumption) (by assumption)) | (exact wkC_same _ _) | (exact wkC_eq ((rowV_app ..).symm.trans (enc_snoc m' D' q)) (rowV_iv _ _)))); done)) | (refine Stuck.out ?_)))
    | ((fail_if_success (with_reducible show AW _ _ _ _)); simp (maxSteps := 2000000) only [go_sem, reduceIte, reduceCtorEq, Nat.reduceAdd, Nat.reduceLT, Nat.reduceLeDiff, Nat.reduceEqDiff, Nat.reduceMul, Nat.reduceSub, Nat.reduceBEq, Try.f31, zc_24, ty_24, fnok_13, fnok_45, fo_24, le_22, sl_22, ar_22, ty_25, fnok_46, sl_25, of_24_0, ty_22, ar_25, ty_5, in_3, zc_3, ty_3, fnok_47, zc_55, ty_55, le_25, of_55_1, zc_5, fnok_39, fnok_49, fnok_48, of_65_0, bytI, rowsI, hvt, hlong, hm0, hk, rowV_take, rowV_drop, rowV_zero, rowV_app, Nat.zero_min, Nat.min_self, lstC_row, maxLen, hL])
    | ((fail_if_success (with_reducible show AW _ _ _ _)); simp (disch := omega) only [seaWrap, seaDiv, seaMod])
    | ((with_reducible refine hK _ ?_); clear hK K)
    | (with_reducible apply_assumption -exfalso only [*]))
  all_goals (first | (simp only [hcut.1, hcut.2]; done) | (simp only [hcut.1, hcut.2]; first | exact ⟨rfl, rfl⟩ | exact ⟨⟨rfl, rfl⟩, rfl⟩ | exact ⟨trivial, trivial⟩ | rfl))

set_option maxRecDepth 100000 in
set_option maxHeartbeats 4000000 in
theorem cc_lt (n : Nat) (m : Nat → Nat) (D : Nat → Nat → Int) (hs : Szd n m) (hD : BytD D) (k : Nat) (hk1 : k ≤ 1) (hk : D 0 0 = (k : Int)) (hok : okP (halfF n D k) (hlf n * 64) = true) (n' : Nat) (m' : Nat → Nat) (D' : Nat → Nat → Int) (hn' : n' ≤ 100) (hm' : ∀ i, i < n' → m' i ≤ 65535) (af : Int) (haf : -9223372036854775808 ≤ af ∧ af ≤ 9223372036854775807) (h0 : 0 ≤ af) (L : Nat) (hL : hlf n * 64 = L) (hlt : encP m' n' < L) : CallsP Try.prog 31 [.agg [.lst 1 (n) (rowsI (m) (D))], .one (.lst 1 (n') (rowsI (m') (D'))), .one (.g (.int .i64 (af)))] (.tup [.agg [.lst 1 (cmpN n m D n' m' af) (rowsI (c64) (cmpD n D n' m' D' af.toNat))], .one (.g (.int .i64 (cmpE n m D n' m' af)))]) := by
  have h3 := hs.h3
  have h64 := hs.h63
  have hl := hs.hlf
  have hm0 := hs.m 0 (by omega)
  have hm : ∀ i, i < n → m i ≤ 9223372036854775807 := fun i hi => by have := hs.m i hi; omega
  have hsz := hs.b
  have hd0 := hD 0 0
  have hd1 : ((k : Int) > 1) = False := eq_false (by omega)
  have hv_ := vB_ok hs hk1 hk
  have hvt : vB n m D = true := hv_.trans hok
  have hb1 := encP_bd m' n' hm'
  have hmm : ∀ i, i < n' → m' i ≤ 9223372036854775807 := fun i hi => by have := hm' i hi; omega
  have hfl := firstN_le (n := n) (show 1 - k ≤ 1 by omega)
  have hlong : anyB n' (longB m') = false := by
    unfold anyB longB
    refine decide_eq_false fun ⟨i, hi, h⟩ => ?_
    have := hm' i hi
    have := of_decide_eq_true h
    omega
  have hk0 : ((1 - k : Nat) : Int) = 1 - (k : Int) := by omega
  have hL1 : ((L - 1 : Nat) : Int) = (L : Int) - 1 := by omega
  have haf0 : ((af.toNat : Nat) : Int) = af := by omega
  have hcok : cmpOk n m D n' m' af = true := by unfold cmpOk; rw [hvt, hlong, decide_eq_true h0]; rfl
  have hcut : cmpE n m D n' m' af = 0 ∧ cmpN n m D n' m' af = n := by
    have e : cmpE n m D n' m' af = 0 := by unfold cmpE; rw [hcok, if_pos rfl, if_pos (by omega)]
    refine ⟨e, ?_⟩
    unfold cmpN; rw [e]; rfl
  have hz : True := trivial
  refine CallsP_of Try.func31 rfl (by rw [Try.ntmps31]; simp) ?_
  simp only [Try.ntmps31, List.map_cons, List.map_nil, PT.tv, argEnv, Nat.zero_add, Nat.reduceAdd]
  repeat' (first
    | ((with_reducible show AW _ (Code.region 18 _ false) _ _); (refine AW_fam (c := Code.region 18 _ false) (A := [some [.iv (.lst 1 n (rowsI m D))], some [.iv (.g (.slice none 0 0))], none, none, none, none, none, none]) (B := [some [.slc 8 0 n 1], none, none, none, none, none, none, none, none, none, none, none, none, none, none, none, none, none, none, none, none, none, none]) (F := (fun i j => .g (.int .u8 (cmpD n D n' m' D' af.toNat i j)))) (b := 32) (n := n) rfl (by intro i cs hi; simp (disch := omega) only [keepE, lk, if_true, if_false, Nat.reduceEqDiff, reduceIte, frzE, frzH, frzA, frzT, frzC, if_neg, List.map_cons, List.map_nil, Option.map_some, Option.map_none, List.cons_append, List.nil_append]) (by intro i cs hi; simp (disch := omega) only [keepE, lk, if_true, if_false, Nat.reduceEqDiff, reduceIte, frzE, frzH, frzA, frzT, frzC, if_neg, List.map_cons, List.map_nil, Option.map_some, Option.map_none, List.cons_append, List.nil_append]) (by intro i cs hi; simp (disch := omega) only [keepE, lk, if_true, if_false, Nat.reduceEqDiff, reduceIte, frzE, frzH, frzA, frzT, frzC, if_neg, List.map_cons, List.map_nil, Option.map_some, Option.map_none, List.cons_append, List.nil_append]) (fun _ _ _ => rfl) (AW_frz [8] ?_ (AW_regionP 18 [6, 14] ?_))))
    | (with_reducible refine AW_litG (c := Code.region 15 _ false) [2, 3, 6, 12, 13] (some [.iv (.lst 1 n (rowsI m D))] :: some [.iv (.g (.slice none 0 0))] :: some [] :: some [.iv (.g (.int .i64 (1 - (k : Int))))] :: some (rowV (bV (cmpF m' D' n')) L) :: some ([.iv (.g (.int .i64 (firstN n (1 - k) : Int))), .slc 4 0 L 1, .iv (.g (.int .i64 0))]) :: none :: none :: none :: none :: none :: none :: none :: none :: none :: none :: none :: none :: none :: none :: none :: none :: none :: none :: none :: none :: none :: none :: none :: none :: none :: none :: ([])) (GOk.nil _) ?_ ?_ (AW_regionP 15 [2, 3, 6, 12, 13] ?_))
    | (with_reducible refine AW_litG (c := Code.region 18 _ false) [6, 14] (some [.iv (.lst 1 n (rowsI m D))] :: some [.iv (.g (.slice none 0 0))] :: none :: none :: none :: none :: none :: none :: some (rowsC 32 n) :: some [.slc 8 0 n 1] :: none :: none :: none :: none :: none :: none :: none :: none :: none :: none :: none :: none :: none :: none :: none :: none :: none :: none :: none :: none :: none :: none :: famL (fun i j => .g (.int .u8 (cmpD n D n' m' D' af.toNat i j))) n) (GOk.nil _) ?_ ?_ ?fam18)
    | (with_reducible refine AW_seq_k fun K hK => ?_)
    | ((first | (with_reducible refine And.intro ?_ ?_) | (with_reducible refine Need.mk ?_)); focus (first | exact True.intro | (with_reducible assumption) | omega | (refine ⟨?_, ?_⟩ <;> omega) | (intro _; first | exact True.intro | (with_reducible assumption) | omega) | (intros; (repeat' (first | exact True.intro | omega | (with_reducible assumption) | (with_reducible refine And.intro ?_ ?_))); done) | (simp (disch := omega) only [Bool.and_eq_true, Bool.or_eq_true, decide_eq_true_eq, bne_iff_ne, ne_eq] at *; first | done | omega | (intros; omega)) | (simp; done) | (simp; omega) | (simp +contextual; done) | (intro h; rw [h]; rfl) | (intros; simp_all; done)))
    | (with_reducible refine AW_skip ?_)
    | (with_reducible refine AW_exit ?_)
    | (with_reducible refine AW_ret ?_)
    | (with_reducible refine retK_n ?_)
    | (with_reducible refine retK_n' ?_)
    | (with_reducible refine retH_n rfl rfl rfl ?_)
    | (with_reducible refine retH_n' rfl rfl rfl ?_)
    | (with_reducible refine retO_n ?_ ?_)
    | (with_reducible refine retO_n' ?_ ?_)
    | (with_reducible refine AW_condI ?_)
    | (with_reducible refine AW_block ?_)
    | ((with_reducible refine condN_t ?_ ?_) <;> (intro hc; (try simp only [Bool.and_eq_true, Bool.or_eq_true, Bool.not_eq_true', Bool.and_eq_false_iff, Bool.or_eq_false_iff, decide_eq_true_eq, decide_eq_false_iff_not, bne_iff_ne, beq_iff_eq, reduceCtorEq, bne_eq_false_iff_eq, beq_eq_false_iff_ne, Bool.not_eq_false', Int.not_le, Int.not_lt, Bool.not_not] at hc); ((try (have e0 : n' = q := (by omega); subst e0; clear hz; have y1 : ((encP m' n' : Nat) : Int).toNat = encP m' n' := Int.toNat_natCast _; have y2 : min L (encP m' n') = encP m' n' := (by omega); have y3 : min (encP m' n') L = encP m' n' := (by omega); have y4 : ((L : Int) - (encP m' n' : Int)).toNat = L - encP m' n' := (by omega); have y5 : encP m' n' + (L - encP m' n') = L := (by omega); obtain ⟨w, hw⟩ : ∃ w, w = min (af.toNat - ((L - 1) / 64 + 1 - 0 / 64) * 64) 64 := ⟨_, rfl⟩; have hsw := sw_facts (wrR D (cmpF m' D' n') (firstN n (1 - k) + 0 / 64) (0 / 64) af.toNat ((L - 1) / 64 + 1 - 0 / 64)) (af.toNat - ((L - 1) / 64 + 1 - 0 / 64) * 64) n w (by omega) hw; have y6 : (((encP m' n' : Nat) : Int) = (L : Int)) = False := eq_false (by omega); have hz := And.intro y1 (And.intro y2 (And.intro y3 (And.intro y4 (And.intro y5 (And.intro y6 hsw)))))))); (try (exfalso; first | contradiction | omega))))
    | (with_reducible refine AW_regionP 0 [0, 1, 2, 8, 9] ?_)
    | (with_reducible refine AW_regionP 1 [0, 1, 2, 3, 4, 5, 6, 8, 9] ?_)
    | (with_reducible refine AW_regionP 2 [0, 1, 2, 3, 4, 6, 8, 9] ?_)
    | (with_reducible refine AW_regionP 3 [2, 4, 6, 8, 9] ?_)
    | (with_reducible refine AW_regionP 4 [1, 2, 3, 4, 5, 6, 8, 9] ?_)
    | (with_reducible refine AW_regionP 5 [1, 2, 3, 6, 9] ?_)
    | ((with_reducible refine AW_prune (c := Code.region 5 _ true) [2, 4, 5, 6, 8, 9] ?_); (with_reducible refine AW_regionDn 20 (holes_of ?_) ?_ ?_ ?_ ?_); (focus kernel_rfl); (focus kernel_rfl); (focus kernel_rfl); (focus kernel_rfl))
    | (with_reducible refine AW_regionP 6 [2, 3, 6, 8, 9, 28, 29, 30] ?_)
    | (with_reducible refine AW_regionP 7 [2, 3, 6, 9, 28, 29, 30] ?_)
    | (with_reducible refine AW_regionP 8 [2, 3, 6, 9, 11, 28, 29, 30] ?_)
    | (with_reducible refine AW_regionP 9 [2, 3, 6, 9, 28, 29, 30] ?_)
    | (with_reducible refine AW_regionP 10 [2, 3, 6, 9] ?_)
    | (with_reducible refine AW_regionP 11 [2, 3, 6, 9, 12] ?_)
    | (with_reducible refine AW_regionP 12 [2, 3, 6, 9, 12, 13] ?_)
    | (with_reducible refine AW_regionP 13 [6] ?_)
    | ((with_reducible refine AW_prune (c := Code.region 14 _ true) [2, 3, 6, 9, 12, 13] ?_); (with_reducible refine AW_regionD ?_ ?_ ?_ ?_); (focus kernel_rfl); (focus kernel_rfl); (focus kernel_rfl))
    | (with_reducible refine AW_regionP 15 [2, 3, 6, 12, 13] ?_)
    | (with_reducible refine AW_regionP 16 [3, 6, 12, 13, 14] ?_)
    | (with_reducible refine AW_regionP 17 [3, 6, 12, 14] ?_)
    | (with_reducible refine AW_regionP 18 [6, 14] ?_)
    | ((with_reducible refine And.intro ?_ ?_); focus ((with_reducible show chkR _ _ _ = true); kernel_rfl))
    | (refine callN_q (k := 13) fnok_13 (valid_p n m D (by omega) hm hD) ?_ ?_)
    | (refine callN_q (k := 45) fnok_45 (hasLong_p n' m' D' (by omega) hmm) ?_ ?_)
    | (refine callGN_q (k := 45) fnok_45 (fun hg => hasLong_p n' m' D' (by omega) hmm) ?_ ?_)
    | (refine callN_q (k := 46) fnok_46 (form_p (m' k_1) (D' k_1) (by have := hm' k_1; omega)) ?_ ?_)
    | (refine callN_q (k := 46) fnok_46 (form_p (m' q) (D' q) (by have := hm' q; omega)) ?_ ?_)
    | (refine callN_hpq (k := 47) fnok_47 (of_q n m D hs k hk1 L hL _ 4 rfl) ?_ ?_)
    | (refine callN_hpq (k := 39) fnok_39 (begin_h [.iv (.lst 1 n (rowsI m D))] [.iv (.g (.slice none 0 0))] [] [.iv (.g (.int .i64 (1 - (k : Int))))] (by simp [isIv]) (by simp [isIv]) (by simp) (by simp [isIv]) (bV (cmpF m' D' n')) L (firstN n (1 - k) : Int) 0 n m D hs.h63 hs.m af) ?_ ?_)
    | (refine callN_hpq (k := 48) fnok_48 ((by have h := write10_h [.iv (.lst 1 n (rowsI m D))] [.iv (.g (.slice none 0 0))] [] [.iv (.g (.int .i64 (1 - (k : Int))))] (by simp [isIv]) (by simp [isIv]) (by simp) (by simp [isIv]) (cmpF m' D' n') L (firstN n (1 - k) : Int) 0 (firstN n (1 - k)) 0 (L - 1) n m D hs.h63 af.toNat (by omega) (by omega) (by omega) (by omega) (by omega); rw [haf0, hL1] at h; exact h)) ?_ ?_)
    | ((with_reducible refine AW_loopQ (c := (Code.seq (Code.region 6 _ _) _)) (ι := Nat) [2, 3, 6, 28, 29] (fun q => [(30, iA .i64 (q : Int)), (9, .t (.one (.slc 2 0 (encP m' q) 1)))]) (fun q => [(2, rowV (bV (encB m' D' q)) (encP m' q))]) (fun q => q ≤ n') (fun q => n' - q) 0 ?lg6 ?l16 ?l26 ?li6 ?lr6); (case' lg6 => rintro q _); (case' li6 => try (first | trivial | omega | (simp; done) | (simp; omega))); (case' lr6 => rintro q hq KR hR6; have hmq := hm' q; have hb3 := encP_mono m' q n' hq; have hb4 : q < n' → encP m' (q + 1) ≤ encP m' n' := (fun h => encP_mono m' (q + 1) n' (by omega)); have hb5 : encP m' (q + 1) = encP m' q + (m' q + 3) := rfl; simp only [keepE, hupd, hset, lk, if_true, if_false, Nat.reduceEqDiff, reduceIte, List.cons_append, List.nil_append, bytI, rowsI, hvt, hlong, hm0, hk, rowV_take, rowV_drop, rowV_zero, rowV_app, Nat.zero_min, Nat.min_self, lstC_row, maxLen, hL, hz, secC_row, Nat.sub_self, rowV_app1, rowV_cons, ipCells_row, wrap8, repC_row, rowsC_len, hget_32, hset_32, toIVs_row]))
    | ((with_reducible refine hR6 _ (q + 1) ?_); (try clear hR6 KR))
    | ((with_reducible refine Told.mk ?_); simp only [go_sem, reduceIte, reduceCtorEq, Nat.reduceAdd, Nat.reduceLT, Nat.reduceLeDiff, Nat.reduceEqDiff, Nat.reduceMul, Nat.reduceSub, Nat.reduceBEq, bytI, rowsI, hvt, hlong, hm0, hk, rowV_take, rowV_drop, rowV_zero, rowV_app, Nat.zero_min, Nat.min_self, lstC_row, maxLen, hL, hz, secC_row, Nat.sub_self, rowV_app1, rowV_cons, ipCells_row, wrap8, repC_row, rowsC_len, hget_32, hset_32, toIVs_row] <;> (first | exact True.intro | (((try simp (disch := omega) only [seaWrap, Int.natCast_add, Int.cast_ofNat_Int, and_true, true_and, and_self]); (repeat' (first | exact True.intro | omega | rfl | (with_reducible assumption) | (with_reducible refine And.intro ?_ ?_) | (exact all_succ (by assumption) (by assumption)) | (exact wkC_same _ _) | (exact wkC_eq ((rowV_app ..).symm.trans (enc_snoc m' D' q)) (rowV_iv _ _)))); done)) | (((try simp (disch := omega) only [seaWrap, Int.natCast_add, Int.cast_ofNat_Int, and_true, true_and, and_self]); (repeat' (first | exact True.intro | omega | rfl | (with_reducible assumption) | (with_reducible refine And.intro ?_ ?_) | (exact all_succ (by assumption) (by assumption)) | (exact wkC_same _ _) | (exact wkC_rows fun k hk => okB_fam hk) | (exact wkH_famR _ _) | (exact wkC_eq rfl (by simp [isIv])) | (((refine wkC_row _ fun j hj => ?_); (rcases Nat.lt_or_ge j (encP m' n') with h|h) <;> (first | (exfalso; omega) | (simp (disch := omega) only [if_pos, if_neg, cmpF, bV]; first | exact u8_eqv rfl | exact IV.eqv_refl _)))) | (exact wkH_fam _ fun u hu j hj => sw_wk hk hk1 hL hl.2.1 hw hj))); done)) | (refine Stuck.out ?_)))
    | ((fail_if_success (with_reducible show AW _ _ _ _)); simp (maxSteps := 2000000) only [go_sem, reduceIte, reduceCtorEq, Nat.reduceAdd, Nat.reduceLT, Nat.reduceLeDiff, Nat.reduceEqDiff, Nat.reduceMul, Nat.reduceSub, Nat.reduceBEq, Try.f31, Try.f50, Try.f49, Try.f48, zc_24, ty_24, fnok_13, fnok_45, fo_24, le_22, sl_22, ar_22, ty_25, fnok_46, sl_25, of_24_0, ty_22, ar_25, ty_5, in_3, zc_3, ty_3, fnok_47, zc_55, ty_55, le_25, of_55_1, zc_5, fnok_39, fnok_49, fnok_48, of_65_0, ar_80, ty_80, zc_80, in_5, sl_80, ty_61, of_65_1, bytI, rowsI, hvt, hlong, hm0, hk, rowV_take, rowV_drop, rowV_zero, rowV_app, Nat.zero_min, Nat.min_self, lstC_row, maxLen, hL, hz, secC_row, Nat.sub_self, rowV_app1, rowV_cons, ipCells_row, wrap8, repC_row, rowsC_len, hget_32, hset_32, toIVs_row])
    | ((fail_if_success (with_reducible show AW _ _ _ _)); simp (disch := omega) only [seaWrap, seaDiv, seaMod])
    | ((refine AW_rangeFuncH (k := 50) rfl Try.func50 rfl fnok_50 (by rw [Try.ntmps50]; simp) ?_ ?_ (fun l hlne A B hA hB => ?_)); (focus (simp (maxSteps := 2000000) only [go_sem, reduceIte, reduceCtorEq, Nat.reduceAdd, Nat.reduceLT, Nat.reduceLeDiff, Nat.reduceEqDiff, Nat.reduceMul, Nat.reduceSub, Nat.reduceBEq, Try.f31, Try.f50, Try.f49, Try.f48, zc_24, ty_24, fnok_13, fnok_45, fo_24, le_22, sl_22, ar_22, ty_25, fnok_46, sl_25, of_24_0, ty_22, ar_25, ty_5, in_3, zc_3, ty_3, fnok_47, zc_55, ty_55, le_25, of_55_1, zc_5, fnok_39, fnok_49, fnok_48, of_65_0, ar_80, ty_80, zc_80, in_5, sl_80, ty_61, of_65_1, bytI, rowsI, hvt, hlong, hm0, hk, rowV_take, rowV_drop, rowV_zero, rowV_app, Nat.zero_min, Nat.min_self, lstC_row, maxLen, hL, hz, secC_row, Nat.sub_self, rowV_app1, rowV_cons, ipCells_row, wrap8, repC_row, rowsC_len, hget_32, hset_32, toIVs_row]; try exact True.intro)); (focus (simp (maxSteps := 2000000) only [go_sem, reduceIte, reduceCtorEq, Nat.reduceAdd, Nat.reduceLT, Nat.reduceLeDiff, Nat.reduceEqDiff, Nat.reduceMul, Nat.reduceSub, Nat.reduceBEq, Try.f31, Try.f50, Try.f49, Try.f48, zc_24, ty_24, fnok_13, fnok_45, fo_24, le_22, sl_22, ar_22, ty_25, fnok_46, sl_25, of_24_0, ty_22, ar_25, ty_5, in_3, zc_3, ty_3, fnok_47, zc_55, ty_55, le_25, of_55_1, zc_5, fnok_39, fnok_49, fnok_48, of_65_0, ar_80, ty_80, zc_80, in_5, sl_80, ty_61, of_65_1, bytI, rowsI, hvt, hlong, hm0, hk, rowV_take, rowV_drop, rowV_zero, rowV_app, Nat.zero_min, Nat.min_self, lstC_row, maxLen, hL, hz, secC_row, Nat.sub_self, rowV_app1, rowV_cons, ipCells_row, wrap8, repC_row, rowsC_len, hget_32, hset_32, toIVs_row]; try exact True.intro)); simp only [Try.ntmps50, List.map_cons, List.map_nil, LV.tv, argEnv, yV, Nat.zero_add, Nat.reduceAdd]; clear hlne)
    | ((refine callN_i (k := 49) Try.func49 rfl fnok_49 (by rw [Try.ntmps49]; simp) ?_ ?_ (fun K hK => ?_)); (focus (first | exact True.intro | (with_reducible assumption) | omega | (refine ⟨?_, ?_⟩ <;> omega) | (intro _; first | exact True.intro | (with_reducible assumption) | omega) | (intros; (repeat' (first | exact True.intro | omega | (with_reducible assumption) | (with_reducible refine And.intro ?_ ?_))); done) | (simp (disch := omega) only [Bool.and_eq_true, Bool.or_eq_true, decide_eq_true_eq, bne_iff_ne, ne_eq] at *; first | done | omega | (intros; omega)) | (simp; done) | (simp; omega) | (simp +contextual; done) | (intro h; rw [h]; rfl) | (intros; simp_all; done))); (focus (first | (simp [lsF]; done) | assumption | exact ⟨Nat.ne_of_lt (Nat.lt_succ_self _), by assumption⟩)); simp only [Try.ntmps49, List.map_cons, List.map_nil, List.nil_append, List.cons_append, List.append_nil, LV.tv, argEnv, Nat.zero_add, Nat.reduceAdd])
    | ((refine callN_i (k := 48) Try.func48 rfl fnok_48 (by rw [Try.ntmps48]; simp) ?_ ?_ (fun K hK => ?_)); (focus (first | exact True.intro | (with_reducible assumption) | omega | (refine ⟨?_, ?_⟩ <;> omega) | (intro _; first | exact True.intro | (with_reducible assumption) | omega) | (intros; (repeat' (first | exact True.intro | omega | (with_reducible assumption) | (with_reducible refine And.intro ?_ ?_))); done) | (simp (disch := omega) only [Bool.and_eq_true, Bool.or_eq_true, decide_eq_true_eq, bne_iff_ne, ne_eq] at *; first | done | omega | (intros; omega)) | (simp; done) | (simp; omega) | (simp +contextual; done) | (intro h; rw [h]; rfl) | (intros; simp_all; done))); (focus (first | (simp [lsF]; done) | assumption | exact ⟨Nat.ne_of_lt (Nat.lt_succ_self _), by assumption⟩)); simp only [Try.ntmps48, List.map_cons, List.map_nil, List.nil_append, List.cons_append, List.append_nil, LV.tv, argEnv, Nat.zero_add, Nat.reduceAdd])
    | (with_reducible refine AW_eq (by assumption) ?_)
    | ((with_reducible show callN _ _ _ _ _ _ (.yld _) _ _ _); (refine callN_y (by simp only [lkL, if_true]; exact rfl) ?_ (by simp) ?_ ?_ (fun K hK => ?_)); (focus (first | exact True.intro | (with_reducible assumption) | omega | (refine ⟨?_, ?_⟩ <;> omega) | (intro _; first | exact True.intro | (with_reducible assumption) | omega) | (intros; (repeat' (first | exact True.intro | omega | (with_reducible assumption) | (with_reducible refine And.intro ?_ ?_))); done) | (simp (disch := omega) only [Bool.and_eq_true, Bool.or_eq_true, decide_eq_true_eq, bne_iff_ne, ne_eq] at *; first | done | omega | (intros; omega)) | (simp; done) | (simp; omega) | (simp +contextual; done) | (intro h; rw [h]; rfl) | (intros; simp_all; done))); (focus (simp [ltAll])); (focus (first | (simp [lsF]; done) | assumption | exact ⟨Nat.ne_of_lt (Nat.lt_succ_self _), by assumption⟩)); simp only [zipPut, gf, if_true, Nat.reduceAdd])
    | ((with_reducible refine hK _ ?_); clear hK K)
    | (with_reducible apply_assumption -exfalso only [*]))
  all_goals (simp only [hcut.1, hcut.2]; exact ⟨⟨trivial, fun i o hi ho => famR_eqv _ _ _ _ hi ho⟩, trivial⟩)

set_option maxRecDepth 100000 in
set_option maxHeartbeats 4000000 in
theorem cc_eq (n : Nat) (m : Nat → Nat) (D : Nat → Nat → Int) (hs : Szd n m) (hD : BytD D) (k : Nat) (hk1 : k ≤ 1) (hk : D 0 0 = (k : Int)) (hok : okP (halfF n D k) (hlf n * 64) = true) (n' : Nat) (m' : Nat → Nat) (D' : Nat → Nat → Int) (hn' : n' ≤ 100) (hm' : ∀ i, i < n' → m' i ≤ 65535) (af : Int) (haf : -9223372036854775808 ≤ af ∧ af ≤ 9223372036854775807) (h0 : 0 ≤ af) (L : Nat) (hL : hlf n * 64 = L) (heq : encP m' n' = L) : CallsP Try.prog 31 [.agg [.lst 1 (n) (rowsI (m) (D))], .one (.lst 1 (n') (rowsI (m') (D'))), .one (.g (.int .i64 (af)))] (.tup [.agg [.lst 1 (cmpN n m D n' m' af) (rowsI (c64) (cmpD n D n' m' D' af.toNat))], .one (.g (.int .i64 (cmpE n m D n' m' af)))]) := by
  have h3 := hs.h3
  have h64 := hs.h63
  have hl := hs.hlf
  have hm0 := hs.m 0 (by omega)
  have hm : ∀ i, i < n → m i ≤ 9223372036854775807 := fun i hi => by have := hs.m i hi; omega
  have hsz := hs.b
  have hd0 := hD 0 0
  have hd1 : ((k : Int) > 1) = False := eq_false (by omega)
  have hv_ := vB_ok hs hk1 hk
  have hvt : vB n m D = true := hv_.trans hok
  have hb1 := encP_bd m' n' hm'
  have hmm : ∀ i, i < n' → m' i ≤ 9223372036854775807 := fun i hi => by have := hm' i hi; omega
  have hfl := firstN_le (n := n) (show 1 - k ≤ 1 by omega)
  have hlong : anyB n' (longB m') = false := by
    unfold anyB longB
    refine decide_eq_false fun ⟨i, hi, h⟩ => ?_
    have := hm' i hi
    have := of_decide_eq_true h
    omega
  have hk0 : ((1 - k : Nat) : Int) = 1 - (k : Int) := by omega
  have hL1 : ((L - 1 : Nat) : Int) = (L : Int) - 1 := by omega
  have haf0 : ((af.toNat : Nat) : Int) = af := by omega
  have hcok : cmpOk n m D n' m' af = true := by unfold cmpOk; rw [hvt, hlong, decide_eq_true h0]; rfl
  have hcut : cmpE n m D n' m' af = 0 ∧ cmpN n m D n' m' af = n := by
    have e : cmpE n m D n' m' af = 0 := by unfold cmpE; rw [hcok, if_pos rfl, if_pos (by omega)]
    refine ⟨e, ?_⟩
    unfold cmpN; rw [e]; rfl
  have hz : True := trivial
  refine CallsP_of Try.func31 rfl (by rw [Try.ntmps31]; simp) ?_
  simp only [Try.ntmps31, List.map_cons, List.map_nil, PT.tv, argEnv, Nat.zero_add, Nat.reduceAdd]
  repeat' (first
    | ((with_reducible show AW _ (Code.region 18 _ false) _ _); (refine AW_fam (c := Code.region 18 _ false) (A := [some [.iv (.lst 1 n (rowsI m D))], some [.iv (.g (.slice none 0 0))], none, none, none, none, none, none]) (B := [some [.slc 8 0 n 1], none, none, none, none, none, none, none, none, none, none, none, none, none, none, none, none, none, none, none, none, none, none]) (F := (fun i j => .g (.int .u8 (cmpD n D n' m' D' af.toNat i j)))) (b := 32) (n := n) rfl (by intro i cs hi; simp (disch := omega) only [keepE, lk, if_true, if_false, Nat.reduceEqDiff, reduceIte, frzE, frzH, frzA, frzT, frzC, if_neg, List.map_cons, List.map_nil, Option.map_some, Option.map_none, List.cons_append, List.nil_append]) (by intro i cs hi; simp (disch := omega) only [keepE, lk, if_true, if_false, Nat.reduceEqDiff, reduceIte, frzE, frzH, frzA, frzT, frzC, if_neg, List.map_cons, List.map_nil, Option.map_some, Option.map_none, List.cons_append, List.nil_append]) (by intro i cs hi; simp (disch := omega) only [keepE, lk, if_true, if_false, Nat.reduceEqDiff, reduceIte, frzE, frzH, frzA, frzT, frzC, if_neg, List.map_cons, List.map_nil, Option.map_some, Option.map_none, List.cons_append, List.nil_append]) (fun _ _ _ => rfl) (AW_frz [8] ?_ (AW_regionP 18 [6, 14] ?_))))
    | (with_reducible refine AW_litG (c := Code.region 15 _ false) [2, 3, 6, 12, 13] (some [.iv (.lst 1 n (rowsI m D))] :: some [.iv (.g (.slice none 0 0))] :: some [] :: some [.iv (.g (.int .i64 (1 - (k : Int))))] :: some (rowV (bV (cmpF m' D' n')) L) :: some ([.iv (.g (.int .i64 (firstN n (1 - k) : Int))), .slc 4 0 L 1, .iv (.g (.int .i64 0))]) :: none :: none :: none :: none :: none :: none :: none :: none :: none :: none :: none :: none :: none :: none :: none :: none :: none :: none :: none :: none :: none :: none :: none :: none :: none :: none :: ([])) (GOk.nil _) ?_ ?_ (AW_regionP 15 [2, 3, 6, 12, 13] ?_))
    | (with_reducible refine AW_litG (c := Code.region 18 _ false) [6, 14] (some [.iv (.lst 1 n (rowsI m D))] :: some [.iv (.g (.slice none 0 0))] :: none :: none :: none :: none :: none :: none :: some (rowsC 32 n) :: some [.slc 8 0 n 1] :: none :: none :: none :: none :: none :: none :: none :: none :: none :: none :: none :: none :: none :: none :: none :: none :: none :: none :: none :: none :: none :: none :: famL (fun i j => .g (.int .u8 (cmpD n D n' m' D' af.toNat i j))) n) (GOk.nil _) ?_ ?_ ?fam18)
    | (with_reducible refine AW_seq_k fun K hK => ?_)
    | ((first | (with_reducible refine And.intro ?_ ?_) | (with_reducible refine Need.mk ?_)); focus (first | exact True.intro | (with_reducible assumption) | omega | (refine ⟨?_, ?_⟩ <;> omega) | (intro _; first | exact True.intro | (with_reducible assumption) | omega) | (intros; (repeat' (first | exact True.intro | omega | (with_reducible assumption) | (with_reducible refine And.intro ?_ ?_))); done) | (simp (disch := omega) only [Bool.and_eq_true, Bool.or_eq_true, decide_eq_true_eq, bne_iff_ne, ne_eq] at *; first | done | omega | (intros; omega)) | (simp; done) | (simp; omega) | (simp +contextual; done) | (intro h; rw [h]; rfl) | (intros; simp_all; done)))
    | (with_reducible refine AW_skip ?_)
    | (with_reducible refine AW_exit ?_)
    | (with_reducible refine AW_ret ?_)
    | (with_reducible refine retK_n ?_)
    | (with_reducible refine retK_n' ?_)
    | (with_reducible refine retH_n rfl rfl rfl ?_)
    | (with_reducible refine retH_n' rfl rfl rfl ?_)
    | (with_reducible refine retO_n ?_ ?_)
    | (with_reducible refine retO_n' ?_ ?_)
    | (with_reducible refine AW_condI ?_)
    | (with_reducible refine AW_block ?_)
    | ((with_reducible refine condN_t ?_ ?_) <;> (intro hc; (try simp only [Bool.and_eq_true, Bool.or_eq_true, Bool.not_eq_true', Bool.and_eq_false_iff, Bool.or_eq_false_iff, decide_eq_true_eq, decide_eq_false_iff_not, bne_iff_ne, beq_iff_eq, reduceCtorEq, bne_eq_false_iff_eq, beq_eq_false_iff_ne, Bool.not_eq_false', Int.not_le, Int.not_lt, Bool.not_not] at hc); ((try (have e0 : n' = q := (by omega); subst e0; clear hz; have y1 : ((encP m' n' : Nat) : Int).toNat = encP m' n' := Int.toNat_natCast _; have y2 : min L (encP m' n') = encP m' n' := (by omega); have y3 : min (encP m' n') L = encP m' n' := (by omega); have y4 : ((L : Int) - (encP m' n' : Int)).toNat = L - encP m' n' := (by omega); have y5 : encP m' n' + (L - encP m' n') = L := (by omega); obtain ⟨w, hw⟩ : ∃ w, w = min (af.toNat - ((L - 1) / 64 + 1 - 0 / 64) * 64) 64 := ⟨_, rfl⟩; have hsw := sw_facts (wrR D (cmpF m' D' n') (firstN n (1 - k) + 0 / 64) (0 / 64) af.toNat ((L - 1) / 64 + 1 - 0 / 64)) (af.toNat - ((L - 1) / 64 + 1 - 0 / 64) * 64) n w (by omega) hw; have y6 : (((encP m' n' : Nat) : Int) = (L : Int)) = True := eq_true (by omega); have hz := And.intro y1 (And.intro y2 (And.intro y3 (And.intro y4 (And.intro y5 (And.intro y6 hsw)))))))); (try (exfalso; first | contradiction | omega))))
    | (with_reducible refine AW_regionP 0 [0, 1, 2, 8, 9] ?_)
    | (with_reducible refine AW_regionP 1 [0, 1, 2, 3, 4, 5, 6, 8, 9] ?_)
    | (with_reducible refine AW_regionP 2 [0, 1, 2, 3, 4, 6, 8, 9] ?_)
    | (with_reducible refine AW_regionP 3 [2, 4, 6, 8, 9] ?_)
    | (with_reducible refine AW_regionP 4 [1, 2, 3, 4, 5, 6, 8, 9] ?_)
    | (with_reducible refine AW_regionP 5 [1, 2, 3, 6, 9] ?_)
    | ((with_reducible refine AW_prune (c := Code.region 5 _ true) [2, 4, 5, 6, 8, 9] ?_); (with_reducible refine AW_regionDn 20 (holes_of ?_) ?_ ?_ ?_ ?_); (focus kernel_rfl); (focus kernel_rfl); (focus kernel_rfl); (focus kernel_rfl))
    | (with_reducible refine AW_regionP 6 [2, 3, 6, 8, 9, 28, 29, 30] ?_)
    | (with_reducible refine AW_regionP 7 [2, 3, 6, 9, 28, 29, 30] ?_)
    | (with_reducible refine AW_regionP 8 [2, 3, 6, 9, 11, 28, 29, 30] ?_)
    | (with_reducible refine AW_regionP 9 [2, 3, 6, 9, 28, 29, 30] ?_)
    | (with_reducible refine AW_regionP 10 [2, 3, 6, 9] ?_)
    | (with_reducible refine AW_regionP 11 [2, 3, 6, 9, 12] ?_)
    | (with_reducible refine AW_regionP 12 [2, 3, 6, 9, 12, 13] ?_)
    | (with_reducible refine AW_regionP 13 [6] ?_)
    | ((with_reducible refine AW_prune (c := Code.region 14 _ true) [2, 3, 6, 9, 12, 13] ?_); (with_reducible refine AW_regionD ?_ ?_ ?_ ?_); (focus kernel_rfl); (focus kernel_rfl); (focus kernel_rfl))
    | (with_reducible refine AW_regionP 15 [2, 3, 6, 12, 13] ?_)
    | (with_reducible refine AW_regionP 16 [3, 6, 12, 13, 14] ?_)
    | (with_reducible refine AW_regionP 17 [3, 6, 12, 14] ?_)
    | (with_reducible refine AW_regionP 18 [6, 14] ?_)
    | ((with_reducible refine And.intro ?_ ?_); focus ((with_reducible show chkR _ _ _ = true); kernel_rfl))
    | (refine callN_q (k := 13) fnok_13 (valid_p n m D (by omega) hm hD) ?_ ?_)
    | (refine callN_q (k := 45) fnok_45 (hasLong_p n' m' D' (by omega) hmm) ?_ ?_)
    | (refine callGN_q (k := 45) fnok_45 (fun hg => hasLong_p n' m' D' (by omega) hmm) ?_ ?_)
    | (refine callN_q (k := 46) fnok_46 (form_p (m' k_1) (D' k_1) (by have := hm' k_1; omega)) ?_ ?_)
    | (refine callN_q (k := 46) fnok_46 (form_p (m' q) (D' q) (by have := hm' q; omega)) ?_ ?_)
    | (refine callN_hpq (k := 47) fnok_47 (of_q n m D hs k hk1 L hL _ 4 rfl) ?_ ?_)
    | (refine callN_hpq (k := 39) fnok_39 (begin_h [.iv (.lst 1 n (rowsI m D))] [.iv (.g (.slice none 0 0))] [] [.iv (.g (.int .i64 (1 - (k : Int))))] (by simp [isIv]) (by simp [isIv]) (by simp) (by simp [isIv]) (bV (cmpF m' D' n')) L (firstN n (1 - k) : Int) 0 n m D hs.h63 hs.m af) ?_ ?_)
    | (refine callN_hpq (k := 48) fnok_48 ((by have h := write10_h [.iv (.lst 1 n (rowsI m D))] [.iv (.g (.slice none 0 0))] [] [.iv (.g (.int .i64 (1 - (k : Int))))] (by simp [isIv]) (by simp [isIv]) (by simp) (by simp [isIv]) (cmpF m' D' n') L (firstN n (1 - k) : Int) 0 (firstN n (1 - k)) 0 (L - 1) n m D hs.h63 af.toNat (by omega) (by omega) (by omega) (by omega) (by omega); rw [haf0, hL1] at h; exact h)) ?_ ?_)
    | ((with_reducible refine AW_loopQ (c := (Code.seq (Code.region 6 _ _) _)) (ι := Nat) [2, 3, 6, 28, 29] (fun q => [(30, iA .i64 (q : Int)), (9, .t (.one (.slc 2 0 (encP m' q) 1)))]) (fun q => [(2, rowV (bV (encB m' D' q)) (encP m' q))]) (fun q => q ≤ n') (fun q => n' - q) 0 ?lg6 ?l16 ?l26 ?li6 ?lr6); (case' lg6 => rintro q _); (case' li6 => try (first | trivial | omega | (simp; done) | (simp; omega))); (case' lr6 => rintro q hq KR hR6; have hmq := hm' q; have hb3 := encP_mono m' q n' hq; have hb4 : q < n' → encP m' (q + 1) ≤ encP m' n' := (fun h => encP_mono m' (q + 1) n' (by omega)); have hb5 : encP m' (q + 1) = encP m' q + (m' q + 3) := rfl; simp only [keepE, hupd, hset, lk, if_true, if_false, Nat.reduceEqDiff, reduceIte, List.cons_append, List.nil_append, bytI, rowsI, hvt, hlong, hm0, hk, rowV_take, rowV_drop, rowV_zero, rowV_app, Nat.zero_min, Nat.min_self, lstC_row, maxLen, hL, hz, secC_row, Nat.sub_self, rowV_app1, rowV_cons, ipCells_row, wrap8, repC_row, rowsC_len, hget_32, hset_32, toIVs_row]))
    | ((with_reducible refine hR6 _ (q + 1) ?_); (try clear hR6 KR))
    | ((with_reducible refine Told.mk ?_); simp only [go_sem, reduceIte, reduceCtorEq, Nat.reduceAdd, Nat.reduceLT, Nat.reduceLeDiff, Nat.reduceEqDiff, Nat.reduceMul, Nat.reduceSub, Nat.reduceBEq, bytI, rowsI, hvt, hlong, hm0, hk, rowV_take, rowV_drop, rowV_zero, rowV_app, Nat.zero_min, Nat.min_self, lstC_row, maxLen, hL, hz, secC_row, Nat.sub_self, rowV_app1, rowV_cons, ipCells_row, wrap8, repC_row, rowsC_len, hget_32, hset_32, toIVs_row] <;> (first | exact True.intro | (((try simp (disch := omega) only [seaWrap, Int.natCast_add, Int.cast_ofNat_Int, and_true, true_and, and_self]); (repeat' (first | exact True.intro | omega | rfl | (with_reducible assumption) | (with_reducible refine And.intro ?_ ?_) | (exact all_succ (by assumption) (by assumption)) | (exact wkC_same _ _) | (exact wkC_eq ((rowV_app ..).symm.trans (enc_snoc m' D' q)) (rowV_iv _ _)))); done)) | (((try simp (disch := omega) only [seaWrap, Int.natCast_add, Int.cast_ofNat_Int, and_true, true_and, and_self]); (repeat' (first | exact True.intro | omega | rfl | (with_reducible assumption) | (with_reducible refine And.intro ?_ ?_) | (exact all_succ (by assumption) (by assumption)) | (exact wkC_same _ _) | (exact wkC_rows fun k hk => okB_fam hk) | (exact wkH_famR _ _) | (exact wkC_eq rfl (by simp [isIv])) | (((refine wkC_row _ fun j hj => ?_); (rcases Nat.lt_or_ge j (encP m' n') with h|h) <;> (first | (exfalso; omega) | (simp (disch := omega) only [if_pos, if_neg, cmpF, bV]; first | exact u8_eqv rfl | exact IV.eqv_refl _)))) | (exact wkH_fam _ fun u hu j hj => sw_wk hk hk1 hL hl.2.1 hw hj))); done)) | (refine Stuck.out ?_)))
    | ((fail_if_success (with_reducible show AW _ _ _ _)); simp (maxSteps := 2000000) only [go_sem, reduceIte, reduceCtorEq, Nat.reduceAdd, Nat.reduceLT, Nat.reduceLeDiff, Nat.reduceEqDiff, Nat.reduceMul, Nat.reduceSub, Nat.reduceBEq, Try.f31, Try.f50, Try.f49, Try.f48, zc_24, ty_24, fnok_13, fnok_45, fo_24, le_22, sl_22, ar_22, ty_25, fnok_46, sl_25, of_24_0, ty_22, ar_25, ty_5, in_3, zc_3, ty_3, fnok_47, zc_55, ty_55, le_25, of_55_1, zc_5, fnok_39, fnok_49, fnok_48, of_65_0, ar_80, ty_80, zc_80, in_5, sl_80, ty_61, of_65_1, bytI, rowsI, hvt, hlong, hm0, hk, rowV_take, rowV_drop, rowV_zero, rowV_app, Nat.zero_min, Nat.min_self, lstC_row, maxLen, hL, hz, secC_row, Nat.sub_self, rowV_app1, rowV_cons, ipCells_row, wrap8, repC_row, rowsC_len, hget_32, hset_32, toIVs_row])
    | ((fail_if_success (with_reducible show AW _ _ _ _)); simp (disch := omega) only [seaWrap, seaDiv, seaMod])
    | ((refine AW_rangeFuncH (k := 50) rfl Try.func50 rfl fnok_50 (by rw [Try.ntmps50]; simp) ?_ ?_ (fun l hlne A B hA hB => ?_)); (focus (simp (maxSteps := 2000000) only [go_sem, reduceIte, reduceCtorEq, Nat.reduceAdd, Nat.reduceLT, Nat.reduceLeDiff, Nat.reduceEqDiff, Nat.reduceMul, Nat.reduceSub, Nat.reduceBEq, Try.f31, Try.f50, Try.f49, Try.f48, zc_24, ty_24, fnok_13, fnok_45, fo_24, le_22, sl_22, ar_22, ty_25, fnok_46, sl_25, of_24_0, ty_22, ar_25, ty_5, in_3, zc_3, ty_3, fnok_47, zc_55, ty_55, le_25, of_55_1, zc_5, fnok_39, fnok_49, fnok_48, of_65_0, ar_80, ty_80, zc_80, in_5, sl_80, ty_61, of_65_1, bytI, rowsI, hvt, hlong, hm0, hk, rowV_take, rowV_drop, rowV_zero, rowV_app, Nat.zero_min, Nat.min_self, lstC_row, maxLen, hL, hz, secC_row, Nat.sub_self, rowV_app1, rowV_cons, ipCells_row, wrap8, repC_row, rowsC_len, hget_32, hset_32, toIVs_row]; try exact True.intro)); (focus (simp (maxSteps := 2000000) only [go_sem, reduceIte, reduceCtorEq, Nat.reduceAdd, Nat.reduceLT, Nat.reduceLeDiff, Nat.reduceEqDiff, Nat.reduceMul, Nat.reduceSub, Nat.reduceBEq, Try.f31, Try.f50, Try.f49, Try.f48, zc_24, ty_24, fnok_13, fnok_45, fo_24, le_22, sl_22, ar_22, ty_25, fnok_46, sl_25, of_24_0, ty_22, ar_25, ty_5, in_3, zc_3, ty_3, fnok_47, zc_55, ty_55, le_25, of_55_1, zc_5, fnok_39, fnok_49, fnok_48, of_65_0, ar_80, ty_80, zc_80, in_5, sl_80, ty_61, of_65_1, bytI, rowsI, hvt, hlong, hm0, hk, rowV_take, rowV_drop, rowV_zero, rowV_app, Nat.zero_min, Nat.min_self, lstC_row, maxLen, hL, hz, secC_row, Nat.sub_self, rowV_app1, rowV_cons, ipCells_row, wrap8, repC_row, rowsC_len, hget_32, hset_32, toIVs_row]; try exact True.intro)); simp only [Try.ntmps50, List.map_cons, List.map_nil, LV.tv, argEnv, yV, Nat.zero_add, Nat.reduceAdd]; clear hlne)
    | ((refine callN_i (k := 49) Try.func49 rfl fnok_49 (by rw [Try.ntmps49]; simp) ?_ ?_ (fun K hK => ?_)); (focus (first | exact True.intro | (with_reducible assumption) | omega | (refine ⟨?_, ?_⟩ <;> omega) | (intro _; first | exact True.intro | (with_reducible assumption) | omega) | (intros; (repeat' (first | exact True.intro | omega | (with_reducible assumption) | (with_reducible refine And.intro ?_ ?_))); done) | (simp (disch := omega) only [Bool.and_eq_true, Bool.or_eq_true, decide_eq_true_eq, bne_iff_ne, ne_eq] at *; first | done | omega | (intros; omega)) | (simp; done) | (simp; omega) | (simp +contextual; done) | (intro h; rw [h]; rfl) | (intros; simp_all; done))); (focus (first | (simp [lsF]; done) | assumption | exact ⟨Nat.ne_of_lt (Nat.lt_succ_self _), by assumption⟩)); simp only [Try.ntmps49, List.map_cons, List.map_nil, List.nil_append, List.cons_append, List.append_nil, LV.tv, argEnv, Nat.zero_add, Nat.reduceAdd])
    | ((refine callN_i (k := 48) Try.func48 rfl fnok_48 (by rw [Try.ntmps48]; simp) ?_ ?_ (fun K hK => ?_)); (focus (first | exact True.intro | (with_reducible assumption) | omega | (refine ⟨?_, ?_⟩ <;> omega) | (intro _; first | exact True.intro | (with_reducible assumption) | omega) | (intros; (repeat' (first | exact True.intro | omega | (with_reducible assumption) | (with_reducible refine And.intro ?_ ?_))); done) | (simp (disch := omega) only [Bool.and_eq_true, Bool.or_eq_true, decide_eq_true_eq, bne_iff_ne, ne_eq] at *; first | done | omega | (intros; omega)) | (simp; done) | (simp; omega) | (simp +contextual; done) | (intro h; rw [h]; rfl) | (intros; simp_all; done))); (focus (first | (simp [lsF]; done) | assumption | exact ⟨Nat.ne_of_lt (Nat.lt_succ_self _), by assumption⟩)); simp only [Try.ntmps48, List.map_cons, List.map_nil, List.nil_append, List.cons_append, List.append_nil, LV.tv, argEnv, Nat.zero_add, Nat.reduceAdd])
    | (with_reducible refine AW_eq (by assumption) ?_)
    | ((with_reducible show callN _ _ _ _ _ _ (.yld _) _ _ _); (refine callN_y (by simp only [lkL, if_true]; exact rfl) ?_ (by simp) ?_ ?_ (fun K hK => ?_)); (focus (first | exact True.intro | (with_reducible assumption) | omega | (refine ⟨?_, ?_⟩ <;> omega) | (intro _; first | exact True.intro | (with_reducible assumption) | omega) | (intros; (repeat' (first | exact True.intro | omega | (with_reducible assumption) | (with_reducible refine And.intro ?_ ?_))); done) | (simp (disch := omega) only [Bool.and_eq_true, Bool.or_eq_true, decide_eq_true_eq, bne_iff_ne, ne_eq] at *; first | done | omega | (intros; omega)) | (simp; done) | (simp; omega) | (simp +contextual; done) | (intro h; rw [h]; rfl) | (intros; simp_all; done))); (focus (simp [ltAll])); (focus (first | (simp [lsF]; done) | assumption | exact ⟨Nat.ne_of_lt (Nat.lt_succ_self _), by assumption⟩)); simp only [zipPut, gf, if_true, Nat.reduceAdd])
    | ((with_reducible refine hK _ ?_); clear hK K)
    | (with_reducible apply_assumption -exfalso only [*]))
  all_goals (simp only [hcut.1, hcut.2]; exact ⟨⟨trivial, fun i o hi ho => famR_eqv _ _ _ _ hi ho⟩, trivial⟩)

theorem cc_p (n : Nat) (m : Nat → Nat) (D : Nat → Nat → Int) (hn : n ≤ 9223372036854775807) (hm : ∀ i, i < n → m i ≤ 9223372036854775807) (hD : BytD D) (n' : Nat) (m' : Nat → Nat) (D' : Nat → Nat → Int) (hn' : n' ≤ 100) (hm' : ∀ i, i < n' → m' i ≤ 9223372036854775807) (af : Int) (haf : -9223372036854775808 ≤ af ∧ af ≤ 9223372036854775807) : CallsP Try.prog 31 [.agg [.lst 1 (n) (rowsI (m) (D))], .one (.lst 1 (n') (rowsI (m') (D'))), .one (.g (.int .i64 (af)))] (.tup [.agg [.lst 1 (cmpN n m D n' m' af) (rowsI (c64) (cmpD n D n' m' D' af.toNat))], .one (.g (.int .i64 (cmpE n m D n' m' af)))]) := by
  cases hc : cmpOk n m D n' m' af with
  | false => exact cc_bad n m D hn hm hD n' m' D' (by omega) hm' af haf hc
  | true =>
    have h1 := hc
    unfold cmpOk at h1
    rw [Bool.and_eq_true, Bool.and_eq_true, decide_eq_true_eq, Bool.not_eq_true'] at h1
    have hl : ∀ i, i < n' → m' i ≤ 65535 := fun i hi => by
      have := of_decide_eq_false h1.1.2
      refine Nat.le_of_not_lt fun h => this ⟨i, hi, decide_eq_true h⟩
    rcases disk_cases n m D hD with hs | ⟨hs, hd⟩ | ⟨k, hs, hk1, hk⟩
    · rw [vB_no1 hs] at h1; cases h1.1.1
    · rw [vB_no2 hd] at h1; cases h1.1.1
    · rw [vB_ok hs hk1 hk] at h1
      by_cases hf : encP m' n' ≤ hlf n * 64
      · by_cases he : encP m' n' = hlf n * 64
        · exact cc_eq n m D hs hD k hk1 hk h1.1.1 n' m' D' hn' hl af haf h1.2 _ rfl he
        · exact cc_lt n m D hs hD k hk1 hk h1.1.1 n' m' D' hn' hl af haf h1.2 _ rfl (by omega)
      · exact cc_full n m D hs hD k hk1 hk h1.1.1 n' m' D' hn' hl af haf h1.2 _ rfl hf

set_option maxRecDepth 100000 in
set_option maxHeartbeats 4000000 in
theorem compact_p (n : Nat) (m : Nat → Nat) (D : Nat → Nat → Int) (hn : n ≤ 9223372036854775807) (hm : ∀ i, i < n → m i ≤ 9223372036854775807) (hD : BytD D) (n' : Nat) (m' : Nat → Nat) (D' : Nat → Nat → Int) (hn' : n' ≤ 100) (hm' : ∀ i, i < n' → m' i ≤ 9223372036854775807) : CallsP Try.prog 29 [.agg [.lst 1 (n) (rowsI (m) (D))], .one (.lst 1 (n') (rowsI (m') (D')))] (.tup [.agg [.lst 1 (cmpN n m D n' m' 1048576) (rowsI (c64) (cmpD n D n' m' D' 1048576))], .one (.g (.int .i64 (cmpE n m D n' m' 1048576)))]) := by
  refine CallsP_of Try.func29 rfl (by rw [Try.ntmps29]; simp) ?_
  simp only [Try.ntmps29, List.map_cons, List.map_nil, PT.tv, argEnv, Nat.zero_add, Nat.reduceAdd]
  repeat' (first
    | (with_reducible refine AW_seq_k fun K hK => ?_)
    | ((first | (with_reducible refine And.intro ?_ ?_) | (with_reducible refine Need.mk ?_)); focus (first | exact True.intro | (with_reducible assumption) | omega | (refine ⟨?_, ?_⟩ <;> omega) | (intro _; first | exact True.intro | (with_reducible assumption) | omega) | (intros; (repeat' (first | exact True.intro | omega | (with_reducible assumption) | (with_reducible refine And.intro ?_ ?_))); done) | (simp (disch := omega) only [Bool.and_eq_true, Bool.or_eq_true, decide_eq_true_eq, bne_iff_ne, ne_eq] at *; first | done | omega | (intros; omega)) | (simp; done) | (simp; omega) | (simp +contextual; done) | (intro h; rw [h]; rfl) | (intros; simp_all; done)))
    | (with_reducible refine AW_skip ?_)
    | (with_reducible refine AW_exit ?_)
    | (with_reducible refine AW_ret ?_)
    | (with_reducible refine retK_n ?_)
    | (with_reducible refine retK_n' ?_)
    | (with_reducible refine retH_n rfl rfl rfl ?_)
    | (with_reducible refine retH_n' rfl rfl rfl ?_)
    | (with_reducible refine retO_n ?_ ?_)
    | (with_reducible refine retO_n' ?_ ?_)
    | (with_reducible refine AW_condI ?_)
    | (with_reducible refine AW_block ?_)
    | ((with_reducible refine condN_t ?_ ?_) <;> (intro hc; (try simp only [Bool.and_eq_true, Bool.or_eq_true, Bool.not_eq_true', Bool.and_eq_false_iff, Bool.or_eq_false_iff, decide_eq_true_eq, decide_eq_false_iff_not, bne_iff_ne, beq_iff_eq, reduceCtorEq, bne_eq_false_iff_eq, beq_eq_false_iff_ne, Bool.not_eq_false', Int.not_le, Int.not_lt, Bool.not_not] at hc); (try (exfalso; first | contradiction | omega))))
    | (with_reducible refine AW_regionP 0 [0, 1] ?_)
    | (with_reducible refine AW_regionP 1 [1, 2, 4] ?_)
    | (refine callN_q (k := 31) fnok_31 (cc_p n m D hn hm hD n' m' D' hn' hm' 1048576 (by omega)) ?_ ?_)
    | ((fail_if_success (with_reducible show AW _ _ _ _)); simp (maxSteps := 2000000) only [go_sem, reduceIte, reduceCtorEq, Nat.reduceAdd, Nat.reduceLT, Nat.reduceLeDiff, Nat.reduceEqDiff, Nat.reduceMul, Nat.reduceSub, Nat.reduceBEq, Try.f29, zc_24, ty_24, fnok_31, bytI, rowsI])
    | ((with_reducible refine hK _ ?_); clear hK K))
  all_goals (intros; rfl)

end Go.Proofs.Ytifoncmlelinjaa
