/- L: walks on abstract states. -/
import Derived.Test.YtifoncmlelinjaaK
set_option linter.unusedVariables false
set_option linter.unusedSimpArgs false
namespace Go.Proofs.Ytifoncmlelinjaa
open Go.RowKit Go.Sea
attribute [local go_sem] callK_N gf gk gdrop lkL setL lsF ltAll rdyL bodyF roundQ roundS loopQ loopS jumpOf inLs yV yA bAV zipPut purgeG_nil purgeG_cons List.tail_cons Option.isNone_none Option.isNone_some callGK_f callDK_f callDGK_f retN retHN blockA arun_nil arun_plain arun_guard plainF guardF guardB arunD_nil arunD_plain arunD_guard plainDF guardDF guardDB AS.ent Eff.noApp Eff.tgt ftF AV.refs TV.refs CV.refs LV.refs Op.operands Call.operands List.append_toArray List.push_toArray List.flatMap_cons List.flatMap_nil List.toList_toArray Option.toArray nidF nidA List.reverse_cons List.reverse_nil opF AS.ev constA lk AS.get AV.tv AV.nd AS.eff AS.put argEnv PT.tv PV.av AV.mbOf hset hget TV.cells dstOk thenA gB isB toB TV.bool? TV.int? intF loadF storeF fieldF indexF lenF sliceF optI appF minmaxF ipCells fillF partsF lvsF TV.lv LV.tv purgeE purgeC purgeH AV.purge CV.purge AV.has TV.has CV.has LV.has calleeF argsF tvsF toPT toIV toIVs toPTs toPV iA bA List.map_cons List.map_nil List.length_nil List.length_cons List.getElem?_cons_zero List.getElem?_cons_succ List.getElem?_nil Option.getD_some Option.getD_none Option.bind_some Option.bind_none List.take_succ_cons List.take_zero List.drop_succ_cons List.drop_zero List.take_nil List.drop_nil List.cons_append List.nil_append List.append_nil List.getD_cons_zero List.getD_cons_succ Option.map_some Option.map_none Option.isSome_some Option.isSome_none List.size_toArray List.any_cons List.any_nil List.mem_cons if_true if_false ite_true ite_false cond_true cond_false Nat.zero_add Nat.add_zero Nat.sub_zero Nat.le_refl Nat.zero_mul Nat.mul_zero Nat.one_mul Nat.mul_one Int.toNat_zero Int.toNat_natCast Bool.or_false Bool.false_or Bool.or_true Bool.true_or Bool.and_true Bool.true_and Bool.and_false Bool.false_and beq_self_eq_true beq_true beq_false Bool.not_true Bool.not_false and_true true_and and_false false_and and_self imp_self Bool.cond_false_right Bool.cond_true_left implies_true forall_const true_implies false_implies Option.some.injEq Prod.mk.injEq ne_eq not_false_eq_true not_true_eq_false eq_self Nat.lt_irrefl Nat.not_lt_zero op2F ncF slice3F offF slArrF copyF clearF toArrF callDK_t calleeT eqN barOp boF seaMin seaMax seaNat1 seaNat2 Value.bool.injEq Value.int.injEq srcF TV.dp IV.eqv PT.eqv PV.eqv All2 keepE hupd callZ_N AS.frz AS.frzW frzs frzsOk frzOk frzE frzA frzT frzC frzG frzH hdel cmpS eqF eqC gvs eqVs eqV decide_true resF tupA inlQ okL okGL okG nextL nextF barOpN AS.mv mvE mvG_nil mvG_cons mvH mvO AV.mv TV.mv CV.mv LV.mv famL_mv famL_purge famL_snoc famL_zero wkH wkC wkV nilA nilC AV.ok TV.ok CV.ok LV.ok okB forall_eq_or_imp forall_eq List.not_mem_nil List.mem_singleton true_or or_true or_false false_or or_self exists_prop AV.t.injEq TV.one.injEq CV.iv.injEq IV.g.injEq TV.agg.injEq List.cons.injEq repC_0 repC_1 repC_2 repC_3 rowV_len rowV_pur rowV_has rowV_frz frzC isIv_iv civ_iv rowV_all List.map_append retON AV.to TV.to CV.to
theorem fnok_20 : fnOk Try.prog 20 = true := by kernel_rfl
theorem fnok_39 : fnOk Try.prog 39 = true := by kernel_rfl
theorem fnok_40 : fnOk Try.prog 40 = true := by kernel_rfl

theorem famI_eqv (X : Nat → Nat → Int) (k : Nat) : (famI (fun i j => .g (.int .u8 (X i j))) k).eqv (.lst 1 64 (bytI (X k))) :=
  ⟨rfl, rfl, fun p o hp ho => by
    show (civ ((rowV _ 64).getD (0 + p * 1 + o) .any)).eqv _
    rw [Nat.zero_add]
    exact rowV_eqv (F := bytI (X k)) (fun j hj => IV.eqv_refl _) p o hp ho⟩
theorem famR_eqv (X : Nat → Nat → Int) (n i o : Nat) (hi : i < n) (ho : o < 1) : (civ ((rowV (famI fun i j => .g (.int .u8 (X i j))) n).getD (i + o) .any)).eqv (.lst 1 (c64 i) (bytI (X i))) :=
  rowV_eqv' (F := fun i _ => .lst 1 (c64 i) (bytI (X i))) (fun j hj => famI_eqv X j) i o hi ho
def cutOk (n : Nat) (m : Nat → Nat) (D : Nat → Nat → Int) (r : Nat) (af : Int) : Bool := vB n m D && decide (r ≤ 65535 ∧ 0 ≤ af)
def fitB (n : Nat) (D : Nat → Nat → Int) (r : Nat) : Bool := decide (endP (hv n D) (hlf n * 64) + (r + 3) ≤ hlf n * 64)
def cutE (n : Nat) (m : Nat → Nat) (D : Nat → Nat → Int) (r : Nat) (af : Int) : Int := if cutOk n m D r af = true then (if fitB n D r = true then 0 else 17) else 1
def cutN (n : Nat) (m : Nat → Nat) (D : Nat → Nat → Int) (r : Nat) (af : Int) : Nat := if cutE n m D r af = 0 then n else 0
def apH (n : Nat) (D : Nat → Nat → Int) (r : Nat) (R : Nat → Int) (af : Nat) : Nat → Nat → Int := apD D (hv n D) (firstN n (D 0 0).toNat) (endP (hv n D) (hlf n * 64)) r (hlf n * 64) R af
theorem cut_no1 {n : Nat} {m : Nat → Nat} {D : Nat → Nat → Int} {r : Nat} {af : Int} (h : cutOk n m D r af = false) : cutE n m D r af = 1 ∧ cutN n m D r af = 0 := by
  have e : cutE n m D r af = 1 := by unfold cutE; rw [h]; rfl
  refine ⟨e, ?_⟩
  unfold cutN; rw [e]; rfl

set_option maxRecDepth 100000 in
set_option maxHeartbeats 4000000 in
theorem cut_b1 (n : Nat) (m : Nat → Nat) (D : Nat → Nat → Int) (hn : n ≤ 9223372036854775807) (hm : ∀ i, i < n → m i ≤ 9223372036854775807) (hs : sizedB n m = false) (r : Nat) (R : Nat → Int) (hr : r ≤ 9223372036854775807) (af : Int) (haf : -9223372036854775808 ≤ af ∧ af ≤ 9223372036854775807) : CallsP Try.prog 20 [.agg [.lst 1 (n) (rowsI (m) (D))], .one (.lst 1 (r) (bytI (R))), .one (.g (.int .i64 (af)))] (.tup [.agg [.lst 1 (cutN n m D r af) (rowsI (c64) (apH n D r R af.toNat))], .one (.g (.int .i64 (cutE n m D r af)))]) := by
  have hcut := cut_no1 (r := r) (af := af) (show cutOk n m D r af = false by unfold cutOk; rw [vB_no1 hs]; exact Bool.false_and _)
  refine CallsP_of Try.func20 rfl (by rw [Try.ntmps20]; simp) ?_
  simp only [Try.ntmps20, List.map_cons, List.map_nil, PT.tv, argEnv, Nat.zero_add, Nat.reduceAdd]
  repeat' (first
    | (with_reducible refine callDGK_f0 ?_)
    | (with_reducible refine callGK_f0 ?_)
    | (with_reducible refine AW_seq_k fun K hK => ?_)
    | ((first | (with_reducible refine And.intro ?_ ?_) | (with_reducible refine Need.mk ?_)); focus (first | exact True.intro | (with_reducible assumption) | omega | (refine ⟨?_, ?_⟩ <;> omega) | (intro _; first | exact True.intro | (with_reducible assumption) | omega) | (intros; (repeat' (first | exact True.intro | omega | (with_reducible assumption) | (with_reducible refine And.intro ?_ ?_))); done) | (simp (disch := omega) only [Bool.and_eq_true, Bool.or_eq_true, decide_eq_true_eq, bne_iff_ne, ne_eq] at *; first | done | omega | (intros; omega)) | (simp; done) | (simp; omega) | (simp +contextual; done) | (intro h; rw [h]; rfl) | (intros; simp_all; done)))
    | (with_reducible refine AW_skip ?_)
    | (with_reducible refine AW_exit ?_)
    | (with_reducible refine AW_ret ?_)
    | (with_reducible refine retK_n ?_)
    | (with_reducible refine retK_n' ?_)
    | (with_reducible refine retH_n rfl rfl rfl ?_)
    | (with_reducible refine retH_n' rfl rfl rfl ?_)
    | (with_reducible refine retO_n ?_ ?_)
    | (with_reducible refine retO_n' ?_ ?_)
    | (with_reducible refine AW_condI ?_)
    | (with_reducible refine AW_block ?_)
    | ((with_reducible refine condN_t ?_ ?_) <;> (intro hc; (try simp only [Bool.and_eq_true, Bool.or_eq_true, Bool.not_eq_true', Bool.and_eq_false_iff, Bool.or_eq_false_iff, decide_eq_true_eq, decide_eq_false_iff_not, bne_iff_ne, beq_iff_eq, reduceCtorEq, bne_eq_false_iff_eq, beq_eq_false_iff_ne, Bool.not_eq_false', Int.not_le, Int.not_lt, Bool.not_not] at hc); (skip); (try (exfalso; first | contradiction | omega))))
    | (with_reducible refine AW_regionP 0 [0, 1, 2] ?_)
    | (with_reducible refine AW_regionP 1 [1, 2, 3, 6] ?_)
    | (with_reducible refine AW_regionP 2 [1, 2, 3, 6, 8, 10] ?_)
    | (with_reducible refine AW_regionP 3 [6] ?_)
    | (with_reducible refine AW_regionP 4 [1, 2, 3, 6, 8] ?_)
    | (with_reducible refine AW_regionP 5 [1, 6, 8, 11] ?_)
    | (with_reducible refine AW_regionP 6 [6] ?_)
    | (with_reducible refine AW_regionP 7 [6, 11] ?_)
    | (refine callN_q (k := 35) fnok_35 (open_b1 n m D hn hm hs) ?_ ?_)
    | ((fail_if_success (with_reducible show AW _ _ _ _)); simp (maxSteps := 2000000) only [go_sem, reduceIte, reduceCtorEq, Nat.reduceAdd, Nat.reduceLT, Nat.reduceLeDiff, Nat.reduceEqDiff, Nat.reduceMul, Nat.reduceSub, Nat.reduceBEq, Try.f20, zc_24, ty_24, fnok_35, zc_55, ty_55, le_25, fo_24, fnok_39, fnok_40, of_65_0, bytI, rowsI])
    | ((with_reducible refine hK _ ?_); clear hK K))
  all_goals (first | (simp only [hcut.1, hcut.2]; done) | (simp only [hcut.1, hcut.2]; first | exact ⟨rfl, rfl⟩ | exact ⟨⟨rfl, rfl⟩, rfl⟩ | exact ⟨trivial, trivial⟩ | rfl))

set_option maxRecDepth 100000 in
set_option maxHeartbeats 4000000 in
theorem cut_b2 (n : Nat) (m : Nat → Nat) (D : Nat → Nat → Int) (hs : Szd n m) (hD : BytD D) (hd : 1 < D 0 0) (r : Nat) (R : Nat → Int) (hr : r ≤ 9223372036854775807) (af : Int) (haf : -9223372036854775808 ≤ af ∧ af ≤ 9223372036854775807) : CallsP Try.prog 20 [.agg [.lst 1 (n) (rowsI (m) (D))], .one (.lst 1 (r) (bytI (R))), .one (.g (.int .i64 (af)))] (.tup [.agg [.lst 1 (cutN n m D r af) (rowsI (c64) (apH n D r R af.toNat))], .one (.g (.int .i64 (cutE n m D r af)))]) := by
  have h3 := hs.h3
  have h64 := hs.h63
  have hm0 := hs.m 0 (by omega)
  have hm : ∀ i, i < n → m i ≤ 9223372036854775807 := fun i hi => by have := hs.m i hi; omega
  have hsz := hs.b
  have hd0 := hD 0 0
  have hd1 : (D 0 0 > 1) = True := eq_true hd
  have hcut := cut_no1 (r := r) (af := af) (show cutOk n m D r af = false by unfold cutOk; rw [vB_no2 hd]; exact Bool.false_and _)
  refine CallsP_of Try.func20 rfl (by rw [Try.ntmps20]; simp) ?_
  simp only [Try.ntmps20, List.map_cons, List.map_nil, PT.tv, argEnv, Nat.zero_add, Nat.reduceAdd]
  repeat' (first
    | (with_reducible refine callDGK_f0 ?_)
    | (with_reducible refine callGK_f0 ?_)
    | (with_reducible refine AW_seq_k fun K hK => ?_)
    | ((first | (with_reducible refine And.intro ?_ ?_) | (with_reducible refine Need.mk ?_)); focus (first | exact True.intro | (with_reducible assumption) | omega | (refine ⟨?_, ?_⟩ <;> omega) | (intro _; first | exact True.intro | (with_reducible assumption) | omega) | (intros; (repeat' (first | exact True.intro | omega | (with_reducible assumption) | (with_reducible refine And.intro ?_ ?_))); done) | (simp (disch := omega) only [Bool.and_eq_true, Bool.or_eq_true, decide_eq_true_eq, bne_iff_ne, ne_eq] at *; first | done | omega | (intros; omega)) | (simp; done) | (simp; omega) | (simp +contextual; done) | (intro h; rw [h]; rfl) | (intros; simp_all; done)))
    | (with_reducible refine AW_skip ?_)
    | (with_reducible refine AW_exit ?_)
    | (with_reducible refine AW_ret ?_)
    | (with_reducible refine retK_n ?_)
    | (with_reducible refine retK_n' ?_)
    | (with_reducible refine retH_n rfl rfl rfl ?_)
    | (with_reducible refine retH_n' rfl rfl rfl ?_)
    | (with_reducible refine retO_n ?_ ?_)
    | (with_reducible refine retO_n' ?_ ?_)
    | (with_reducible refine AW_condI ?_)
    | (with_reducible refine AW_block ?_)
    | ((with_reducible refine condN_t ?_ ?_) <;> (intro hc; (try simp only [Bool.and_eq_true, Bool.or_eq_true, Bool.not_eq_true', Bool.and_eq_false_iff, Bool.or_eq_false_iff, decide_eq_true_eq, decide_eq_false_iff_not, bne_iff_ne, beq_iff_eq, reduceCtorEq, bne_eq_false_iff_eq, beq_eq_false_iff_ne, Bool.not_eq_false', Int.not_le, Int.not_lt, Bool.not_not] at hc); (skip); (try (exfalso; first | contradiction | omega))))
    | (with_reducible refine AW_regionP 0 [0, 1, 2] ?_)
    | (with_reducible refine AW_regionP 1 [1, 2, 3, 6] ?_)
    | (with_reducible refine AW_regionP 2 [1, 2, 3, 6, 8, 10] ?_)
    | (with_reducible refine AW_regionP 3 [6] ?_)
    | (with_reducible refine AW_regionP 4 [1, 2, 3, 6, 8] ?_)
    | (with_reducible refine AW_regionP 5 [1, 6, 8, 11] ?_)
    | (with_reducible refine AW_regionP 6 [6] ?_)
    | (with_reducible refine AW_regionP 7 [6, 11] ?_)
    | (refine callN_q (k := 35) fnok_35 (open_b2 n m D hs hD hd) ?_ ?_)
    | ((fail_if_success (with_reducible show AW _ _ _ _)); simp (maxSteps := 2000000) only [go_sem, reduceIte, reduceCtorEq, Nat.reduceAdd, Nat.reduceLT, Nat.reduceLeDiff, Nat.reduceEqDiff, Nat.reduceMul, Nat.reduceSub, Nat.reduceBEq, Try.f20, zc_24, ty_24, fnok_35, zc_55, ty_55, le_25, fo_24, fnok_39, fnok_40, of_65_0, bytI, rowsI])
    | ((with_reducible refine hK _ ?_); clear hK K))
  all_goals (first | (simp only [hcut.1, hcut.2]; done) | (simp only [hcut.1, hcut.2]; first | exact ⟨rfl, rfl⟩ | exact ⟨⟨rfl, rfl⟩, rfl⟩ | exact ⟨trivial, trivial⟩ | rfl))

set_option maxRecDepth 100000 in
set_option maxHeartbeats 4000000 in
theorem cut_b3 (n : Nat) (m : Nat → Nat) (D : Nat → Nat → Int) (hs : Szd n m) (hD : BytD D) (k : Nat) (hk1 : k ≤ 1) (hk : D 0 0 = (k : Int)) (r : Nat) (R : Nat → Int) (hr : r ≤ 9223372036854775807) (af : Int) (haf : -9223372036854775808 ≤ af ∧ af ≤ 9223372036854775807) (hc : cutOk n m D r af = false) : CallsP Try.prog 20 [.agg [.lst 1 (n) (rowsI (m) (D))], .one (.lst 1 (r) (bytI (R))), .one (.g (.int .i64 (af)))] (.tup [.agg [.lst 1 (cutN n m D r af) (rowsI (c64) (apH n D r R af.toNat))], .one (.g (.int .i64 (cutE n m D r af)))]) := by
  have h3 := hs.h3
  have h64 := hs.h63
  have hl := hs.hlf
  have hm0 := hs.m 0 (by omega)
  have hm : ∀ i, i < n → m i ≤ 9223372036854775807 := fun i hi => by have := hs.m i hi; omega
  have hsz := hs.b
  have hd0 := hD 0 0
  have hd1 : ((k : Int) > 1) = False := eq_false (by omega)
  have hv_ := vB_ok hs hk1 hk
  have hcut := cut_no1 hc
  have hbad : okP (halfF n D k) (hlf n * 64) = true → r ≤ 65535 → af < 0 := by
    intro h1 h2
    unfold cutOk at hc
    rw [hv_, h1] at hc
    simp at hc
    have := hc (by omega)
    omega
  refine CallsP_of Try.func20 rfl (by rw [Try.ntmps20]; simp) ?_
  simp only [Try.ntmps20, List.map_cons, List.map_nil, PT.tv, argEnv, Nat.zero_add, Nat.reduceAdd]
  repeat' (first
    | (with_reducible refine AW_seq_k fun K hK => ?_)
    | ((first | (with_reducible refine And.intro ?_ ?_) | (with_reducible refine Need.mk ?_)); focus (first | exact True.intro | (with_reducible assumption) | omega | (refine ⟨?_, ?_⟩ <;> omega) | (intro _; first | exact True.intro | (with_reducible assumption) | omega) | (intros; (repeat' (first | exact True.intro | omega | (with_reducible assumption) | (with_reducible refine And.intro ?_ ?_))); done) | (simp (disch := omega) only [Bool.and_eq_true, Bool.or_eq_true, decide_eq_true_eq, bne_iff_ne, ne_eq] at *; first | done | omega | (intros; omega)) | (simp; done) | (simp; omega) | (simp +contextual; done) | (intro h; rw [h]; rfl) | (intros; simp_all; done)))
    | (with_reducible refine AW_skip ?_)
    | (with_reducible refine AW_exit ?_)
    | (with_reducible refine AW_ret ?_)
    | (with_reducible refine retK_n ?_)
    | (with_reducible refine retK_n' ?_)
    | (with_reducible refine retH_n rfl rfl rfl ?_)
    | (with_reducible refine retH_n' rfl rfl rfl ?_)
    | (with_reducible refine retO_n ?_ ?_)
    | (with_reducible refine retO_n' ?_ ?_)
    | (with_reducible refine AW_condI ?_)
    | (with_reducible refine AW_block ?_)
    | ((with_reducible refine condN_t ?_ ?_) <;> (intro hc; (try simp only [Bool.and_eq_true, Bool.or_eq_true, Bool.not_eq_true', Bool.and_eq_false_iff, Bool.or_eq_false_iff, decide_eq_true_eq, decide_eq_false_iff_not, bne_iff_ne, beq_iff_eq, reduceCtorEq, bne_eq_false_iff_eq, beq_eq_false_iff_ne, Bool.not_eq_false', Int.not_le, Int.not_lt, Bool.not_not] at hc); ((try (exfalso; have h9 := hbad hc.1.1 (by omega); omega))); (try (exfalso; first | contradiction | omega))))
    | (with_reducible refine AW_regionP 0 [0, 1, 2] ?_)
    | (with_reducible refine AW_regionP 1 [1, 2, 3, 6] ?_)
    | (with_reducible refine AW_regionP 2 [1, 2, 3, 6, 8, 10] ?_)
    | (with_reducible refine AW_regionP 3 [6] ?_)
    | (with_reducible refine AW_regionP 4 [1, 2, 3, 6, 8] ?_)
    | (with_reducible refine AW_regionP 5 [1, 6, 8, 11] ?_)
    | (with_reducible refine AW_regionP 6 [6] ?_)
    | (with_reducible refine AW_regionP 7 [6, 11] ?_)
    | (refine callN_q (k := 35) fnok_35 (open_ok n m D hs hD k hk1 hk) ?_ ?_)
    | ((fail_if_success (with_reducible show AW _ _ _ _)); simp (maxSteps := 2000000) only [go_sem, reduceIte, reduceCtorEq, Nat.reduceAdd, Nat.reduceLT, Nat.reduceLeDiff, Nat.reduceEqDiff, Nat.reduceMul, Nat.reduceSub, Nat.reduceBEq, Try.f20, zc_24, ty_24, fnok_35, zc_55, ty_55, le_25, fo_24, fnok_39, fnok_40, of_65_0, bytI, rowsI])
    | ((with_reducible refine hK _ ?_); clear hK K))
  all_goals (first | (simp only [hcut.1, hcut.2]; done) | (simp only [hcut.1, hcut.2]; first | exact ⟨rfl, rfl⟩ | exact ⟨⟨rfl, rfl⟩, rfl⟩ | exact ⟨trivial, trivial⟩ | rfl))

set_option maxRecDepth 100000 in
set_option maxHeartbeats 4000000 in
theorem cut_no (n : Nat) (m : Nat → Nat) (D : Nat → Nat → Int) (hs : Szd n m) (hD : BytD D) (k : Nat) (hk1 : k ≤ 1) (hk : D 0 0 = (k : Int)) (r : Nat) (R : Nat → Int) (hr : r ≤ 9223372036854775807) (af : Int) (haf : -9223372036854775808 ≤ af ∧ af ≤ 9223372036854775807) (hok : okP (halfF n D k) (hlf n * 64) = true) (h6 : r ≤ 65535) (h0 : 0 ≤ af) (hno : ¬ endP (halfF n D k) (hlf n * 64) + (r + 3) ≤ hlf n * 64) : CallsP Try.prog 20 [.agg [.lst 1 (n) (rowsI (m) (D))], .one (.lst 1 (r) (bytI (R))), .one (.g (.int .i64 (af)))] (.tup [.agg [.lst 1 (cutN n m D r af) (rowsI (c64) (apH n D r R af.toNat))], .one (.g (.int .i64 (cutE n m D r af)))]) := by
  have h3 := hs.h3
  have h64 := hs.h63
  have hl := hs.hlf
  have hm0 := hs.m 0 (by omega)
  have hm : ∀ i, i < n → m i ≤ 9223372036854775807 := fun i hi => by have := hs.m i hi; omega
  have hsz := hs.b
  have hd0 := hD 0 0
  have hd1 : ((k : Int) > 1) = False := eq_false (by omega)
  have hv_ := vB_ok hs hk1 hk
  have hh_ := hv_k (n := n) hk
  have hle := endP_le (halfF n D k) (hlf n * 64)
  have haf0 : ((af.toNat : Nat) : Int) = af := by omega
  have hcut : cutE n m D r af = 17 ∧ cutN n m D r af = 0 := by
    have e : cutE n m D r af = 17 := by unfold cutE cutOk fitB; rw [hv_, hok, decide_eq_true ⟨h6, h0⟩, hh_, decide_eq_false hno]; rfl
    refine ⟨e, ?_⟩
    unfold cutN; rw [e]; rfl
  refine CallsP_of Try.func20 rfl (by rw [Try.ntmps20]; simp) ?_
  simp only [Try.ntmps20, List.map_cons, List.map_nil, PT.tv, argEnv, Nat.zero_add, Nat.reduceAdd]
  repeat' (first
    | (with_reducible refine AW_litG (c := Code.region 4 _ false) [1, 2, 3, 6, 8] (some [.iv (.lst 1 n (rowsI m D))] :: some [.iv (.g (.slice none 0 0))] :: some [] :: some [] :: some (rowV (bV (halfF n D k)) (hlf n * 64)) :: some ([.iv (.g (.int .i64 (firstN n k : Int))), .slc 4 0 (hlf n * 64) 1, .iv (.g (.int .i64 (endP (halfF n D k) (hlf n * 64) : Int)))]) :: none :: none :: none :: none :: none :: none :: none :: none :: none :: none :: none :: none :: none :: none :: none :: none :: none :: none :: none :: none :: none :: none :: none :: none :: none :: none :: ([])) (GOk.nil _) ?_ ?_ (AW_regionP 4 [1, 2, 3, 6, 8] ?_))
    | (with_reducible refine AW_seq_k fun K hK => ?_)
    | ((first | (with_reducible refine And.intro ?_ ?_) | (with_reducible refine Need.mk ?_)); focus (first | exact True.intro | (with_reducible assumption) | omega | (refine ⟨?_, ?_⟩ <;> omega) | (intro _; first | exact True.intro | (with_reducible assumption) | omega) | (intros; (repeat' (first | exact True.intro | omega | (with_reducible assumption) | (with_reducible refine And.intro ?_ ?_))); done) | (simp (disch := omega) only [Bool.and_eq_true, Bool.or_eq_true, decide_eq_true_eq, bne_iff_ne, ne_eq] at *; first | done | omega | (intros; omega)) | (simp; done) | (simp; omega) | (simp +contextual; done) | (intro h; rw [h]; rfl) | (intros; simp_all; done)))
    | (with_reducible refine AW_skip ?_)
    | (with_reducible refine AW_exit ?_)
    | (with_reducible refine AW_ret ?_)
    | (with_reducible refine retK_n ?_)
    | (with_reducible refine retK_n' ?_)
    | (with_reducible refine retH_n rfl rfl rfl ?_)
    | (with_reducible refine retH_n' rfl rfl rfl ?_)
    | (with_reducible refine retO_n ?_ ?_)
    | (with_reducible refine retO_n' ?_ ?_)
    | (with_reducible refine AW_condI ?_)
    | (with_reducible refine AW_block ?_)
    | ((with_reducible refine condN_t ?_ ?_) <;> (intro hc; (try simp only [Bool.and_eq_true, Bool.or_eq_true, Bool.not_eq_true', Bool.and_eq_false_iff, Bool.or_eq_false_iff, decide_eq_true_eq, decide_eq_false_iff_not, bne_iff_ne, beq_iff_eq, reduceCtorEq, bne_eq_false_iff_eq, beq_eq_false_iff_ne, Bool.not_eq_false', Int.not_le, Int.not_lt, Bool.not_not] at hc); (skip); (try (exfalso; first | contradiction | omega))))
    | (with_reducible refine AW_regionP 0 [0, 1, 2] ?_)
    | (with_reducible refine AW_regionP 1 [1, 2, 3, 6] ?_)
    | (with_reducible refine AW_regionP 2 [1, 2, 3, 6, 8, 10] ?_)
    | (with_reducible refine AW_regionP 3 [6] ?_)
    | (with_reducible refine AW_regionP 4 [1, 2, 3, 6, 8] ?_)
    | (with_reducible refine AW_regionP 5 [1, 6, 8, 11] ?_)
    | (with_reducible refine AW_regionP 6 [6] ?_)
    | (with_reducible refine AW_regionP 7 [6, 11] ?_)
    | (refine callN_hpq (k := 35) fnok_35 (open_n n m D hs hD k hk1 hk hok _ 4 rfl) ?_ ?_)
    | (refine callN_hpq (k := 39) fnok_39 (begin_h [.iv (.lst 1 n (rowsI m D))] [.iv (.g (.slice none 0 0))] [] [] (by simp [isIv]) (by simp [isIv]) (by simp) (by simp) (bV (halfF n D k)) (hlf n * 64) (firstN n k : Int) (endP (halfF n D k) (hlf n * 64) : Int) n m D hs.h63 hs.m af) ?_ ?_)
    | (refine callN_hpq (k := 40) fnok_40 ((by have h := append_no [.iv (.lst 1 n (rowsI m D))] [.iv (.g (.slice none 0 0))] [] [] (by simp [isIv]) (by simp [isIv]) (by simp) (by simp) (halfF n D k) (hlf n * 64) (firstN n k) (endP (halfF n D k) (hlf n * 64)) n D r R hs.h63 af.toNat (by omega) (by omega) (by omega) (by have := firstN_le (n := n) hk1; omega) (by omega) hno hle; rw [haf0] at h; exact h)) ?_ ?_)
    | ((with_reducible refine Told.mk ?_); simp only [go_sem, reduceIte, reduceCtorEq, Nat.reduceAdd, Nat.reduceLT, Nat.reduceLeDiff, Nat.reduceEqDiff, Nat.reduceMul, Nat.reduceSub, Nat.reduceBEq, bytI, rowsI] <;> (first | exact True.intro | (((try simp (disch := omega) only [seaWrap, Int.natCast_add, Int.cast_ofNat_Int, and_true, true_and, and_self]); (repeat' (first | exact True.intro | omega | rfl | (with_reducible assumption) | (with_reducible refine And.intro ?_ ?_) | (exact all_succ (by assumption) (by assumption)) | (exact wkC_same _ _) | (exact wkC_rows fun k hk => okB_fam hk) | (exact wkH_famR _ _) | (exact wkC_eq rfl (by simp [isIv])))); done)) | (refine Stuck.out ?_)))
    | ((fail_if_success (with_reducible show AW _ _ _ _)); simp (maxSteps := 2000000) only [go_sem, reduceIte, reduceCtorEq, Nat.reduceAdd, Nat.reduceLT, Nat.reduceLeDiff, Nat.reduceEqDiff, Nat.reduceMul, Nat.reduceSub, Nat.reduceBEq, Try.f20, zc_24, ty_24, fnok_35, zc_55, ty_55, le_25, fo_24, fnok_39, fnok_40, of_65_0, bytI, rowsI])
    | ((with_reducible refine hK _ ?_); clear hK K))
  all_goals (first | (simp only [hcut.1, hcut.2]; done) | (simp only [hcut.1, hcut.2]; first | exact ⟨rfl, rfl⟩ | exact ⟨⟨rfl, rfl⟩, rfl⟩ | exact ⟨trivial, trivial⟩ | rfl))

set_option maxRecDepth 100000 in
set_option maxHeartbeats 4000000 in
theorem cut_fit (n : Nat) (m : Nat → Nat) (D : Nat → Nat → Int) (hs : Szd n m) (hD : BytD D) (k : Nat) (hk1 : k ≤ 1) (hk : D 0 0 = (k : Int)) (r : Nat) (R : Nat → Int) (hr : r ≤ 9223372036854775807) (af : Int) (haf : -9223372036854775808 ≤ af ∧ af ≤ 9223372036854775807) (hok : okP (halfF n D k) (hlf n * 64) = true) (h6 : r ≤ 65535) (h0 : 0 ≤ af) (hfit : endP (halfF n D k) (hlf n * 64) + (r + 3) ≤ hlf n * 64) : CallsP Try.prog 20 [.agg [.lst 1 (n) (rowsI (m) (D))], .one (.lst 1 (r) (bytI (R))), .one (.g (.int .i64 (af)))] (.tup [.agg [.lst 1 (cutN n m D r af) (rowsI (c64) (apH n D r R af.toNat))], .one (.g (.int .i64 (cutE n m D r af)))]) := by
  have h3 := hs.h3
  have h64 := hs.h63
  have hl := hs.hlf
  have hm0 := hs.m 0 (by omega)
  have hm : ∀ i, i < n → m i ≤ 9223372036854775807 := fun i hi => by have := hs.m i hi; omega
  have hsz := hs.b
  have hd0 := hD 0 0
  have hd1 : ((k : Int) > 1) = False := eq_false (by omega)
  have hv_ := vB_ok hs hk1 hk
  have hh_ := hv_k (n := n) hk
  have hle := endP_le (halfF n D k) (hlf n * 64)
  have haf0 : ((af.toNat : Nat) : Int) = af := by omega
  have hap : apH n D r R af.toNat = apD D (halfF n D k) (firstN n k) (endP (halfF n D k) (hlf n * 64)) r (hlf n * 64) R af.toNat := by unfold apH; rw [hh_, hk, Int.toNat_natCast]
  have hcut : cutE n m D r af = 0 ∧ cutN n m D r af = n := by
    have e : cutE n m D r af = 0 := by unfold cutE cutOk fitB; rw [hv_, hok, decide_eq_true ⟨h6, h0⟩, hh_, decide_eq_true hfit]; rfl
    refine ⟨e, ?_⟩
    unfold cutN; rw [e]; rfl
  refine CallsP_of Try.func20 rfl (by rw [Try.ntmps20]; simp) ?_
  simp only [Try.ntmps20, List.map_cons, List.map_nil, PT.tv, argEnv, Nat.zero_add, Nat.reduceAdd]
  repeat' (first
    | ((refine AW_fam (c := Code.region 7 _ false) (A := [some [.iv (.lst 1 n (rowsI m D))], some [.iv (.g (.slice none 0 0))], none, none, none, none, none, none]) (B := [some [.slc 8 0 n 1, .iv (.g (.int .i64 ((af.toNat - secsN (endP (halfF n D k) (hlf n * 64)) r (hlf n * 64) * 64 - (endP (halfF n D k) (hlf n * 64) / 64 + 1 - endP (halfF n D k) (hlf n * 64) / 64) * 64 : Nat) : Int)))], none, none, none, none, none, none, none, none, none, none, none, none, none, none, none, none, none, none, none, none, none, none]) (F := (fun i j => .g (.int .u8 ((apD D (halfF n D k) (firstN n k) (endP (halfF n D k) (hlf n * 64)) r (hlf n * 64) R af.toNat) i j)))) (b := 32) (n := n) rfl (by intro i cs hi; simp (disch := omega) only [keepE, lk, if_true, if_false, Nat.reduceEqDiff, reduceIte, frzE, frzH, frzA, frzT, frzC, if_neg, List.map_cons, List.map_nil, Option.map_some, Option.map_none, List.cons_append, List.nil_append]) (by intro i cs hi; simp (disch := omega) only [keepE, lk, if_true, if_false, Nat.reduceEqDiff, reduceIte, frzE, frzH, frzA, frzT, frzC, if_neg, List.map_cons, List.map_nil, Option.map_some, Option.map_none, List.cons_append, List.nil_append]) (by intro i cs hi; simp (disch := omega) only [keepE, lk, if_true, if_false, Nat.reduceEqDiff, reduceIte, frzE, frzH, frzA, frzT, frzC, if_neg, List.map_cons, List.map_nil, Option.map_some, Option.map_none, List.cons_append, List.nil_append]) (fun _ _ _ => rfl) (AW_frz [8] ?_ (AW_regionP 7 [6, 11] ?_))))
    | (with_reducible refine AW_litG (c := Code.region 4 _ false) [1, 2, 3, 6, 8] (some [.iv (.lst 1 n (rowsI m D))] :: some [.iv (.g (.slice none 0 0))] :: some [] :: some [] :: some (rowV (bV (halfF n D k)) (hlf n * 64)) :: some ([.iv (.g (.int .i64 (firstN n k : Int))), .slc 4 0 (hlf n * 64) 1, .iv (.g (.int .i64 (endP (halfF n D k) (hlf n * 64) : Int)))]) :: none :: none :: none :: none :: none :: none :: none :: none :: none :: none :: none :: none :: none :: none :: none :: none :: none :: none :: none :: none :: none :: none :: none :: none :: none :: none :: ([])) (GOk.nil _) ?_ ?_ (AW_regionP 4 [1, 2, 3, 6, 8] ?_))
    | (with_reducible refine AW_litG (c := Code.region 7 _ false) [6, 11] (some [.iv (.lst 1 n (rowsI m D))] :: some [.iv (.g (.slice none 0 0))] :: none :: none :: none :: none :: none :: none :: some (rowsC 32 n) :: some [.slc 8 0 n 1, .iv (.g (.int .i64 ((af.toNat - secsN (endP (halfF n D k) (hlf n * 64)) r (hlf n * 64) * 64 - (endP (halfF n D k) (hlf n * 64) / 64 + 1 - endP (halfF n D k) (hlf n * 64) / 64) * 64 : Nat) : Int)))] :: none :: none :: none :: none :: none :: none :: none :: none :: none :: none :: none :: none :: none :: none :: none :: none :: none :: none :: none :: none :: none :: none :: famL (fun i j => .g (.int .u8 ((apD D (halfF n D k) (firstN n k) (endP (halfF n D k) (hlf n * 64)) r (hlf n * 64) R af.toNat) i j))) n) (GOk.nil _) ?_ ?_ ?fam7)
    | (with_reducible refine AW_seq_k fun K hK => ?_)
    | ((first | (with_reducible refine And.intro ?_ ?_) | (with_reducible refine Need.mk ?_)); focus (first | exact True.intro | (with_reducible assumption) | omega | (refine ⟨?_, ?_⟩ <;> omega) | (intro _; first | exact True.intro | (with_reducible assumption) | omega) | (intros; (repeat' (first | exact True.intro | omega | (with_reducible assumption) | (with_reducible refine And.intro ?_ ?_))); done) | (simp (disch := omega) only [Bool.and_eq_true, Bool.or_eq_true, decide_eq_true_eq, bne_iff_ne, ne_eq] at *; first | done | omega | (intros; omega)) | (simp; done) | (simp; omega) | (simp +contextual; done) | (intro h; rw [h]; rfl) | (intros; simp_all; done)))
    | (with_reducible refine AW_skip ?_)
    | (with_reducible refine AW_exit ?_)
    | (with_reducible refine AW_ret ?_)
    | (with_reducible refine retK_n ?_)
    | (with_reducible refine retK_n' ?_)
    | (with_reducible refine retH_n rfl rfl rfl ?_)
    | (with_reducible refine retH_n' rfl rfl rfl ?_)
    | (with_reducible refine retO_n ?_ ?_)
    | (with_reducible refine retO_n' ?_ ?_)
    | (with_reducible refine AW_condI ?_)
    | (with_reducible refine AW_block ?_)
    | ((with_reducible refine condN_t ?_ ?_) <;> (intro hc; (try simp only [Bool.and_eq_true, Bool.or_eq_true, Bool.not_eq_true', Bool.and_eq_false_iff, Bool.or_eq_false_iff, decide_eq_true_eq, decide_eq_false_iff_not, bne_iff_ne, beq_iff_eq, reduceCtorEq, bne_eq_false_iff_eq, beq_eq_false_iff_ne, Bool.not_eq_false', Int.not_le, Int.not_lt, Bool.not_not] at hc); (skip); (try (exfalso; first | contradiction | omega))))
    | (with_reducible refine AW_regionP 0 [0, 1, 2] ?_)
    | (with_reducible refine AW_regionP 1 [1, 2, 3, 6] ?_)
    | (with_reducible refine AW_regionP 2 [1, 2, 3, 6, 8, 10] ?_)
    | (with_reducible refine AW_regionP 3 [6] ?_)
    | (with_reducible refine AW_regionP 4 [1, 2, 3, 6, 8] ?_)
    | (with_reducible refine AW_regionP 5 [1, 6, 8, 11] ?_)
    | (with_reducible refine AW_regionP 6 [6] ?_)
    | (with_reducible refine AW_regionP 7 [6, 11] ?_)
    | (refine callN_hpq (k := 35) fnok_35 (open_n n m D hs hD k hk1 hk hok _ 4 rfl) ?_ ?_)
    | (refine callN_hpq (k := 39) fnok_39 (begin_h [.iv (.lst 1 n (rowsI m D))] [.iv (.g (.slice none 0 0))] [] [] (by simp [isIv]) (by simp [isIv]) (by simp) (by simp) (bV (halfF n D k)) (hlf n * 64) (firstN n k : Int) (endP (halfF n D k) (hlf n * 64) : Int) n m D hs.h63 hs.m af) ?_ ?_)
    | (refine callN_hpq (k := 40) fnok_40 ((by have h := append_ok [.iv (.lst 1 n (rowsI m D))] [.iv (.g (.slice none 0 0))] [] [] (by simp [isIv]) (by simp [isIv]) (by simp) (by simp) (halfF n D k) (hlf n * 64) (firstN n k) (endP (halfF n D k) (hlf n * 64)) n D r R hs.h63 af.toNat (by omega) (by omega) (by omega) (by have := firstN_le (n := n) hk1; omega) (by omega) hfit; rw [haf0] at h; exact h)) ?_ ?_)
    | ((with_reducible refine Told.mk ?_); simp only [go_sem, reduceIte, reduceCtorEq, Nat.reduceAdd, Nat.reduceLT, Nat.reduceLeDiff, Nat.reduceEqDiff, Nat.reduceMul, Nat.reduceSub, Nat.reduceBEq, bytI, rowsI] <;> (first | exact True.intro | (((try simp (disch := omega) only [seaWrap, Int.natCast_add, Int.cast_ofNat_Int, and_true, true_and, and_self]); (repeat' (first | exact True.intro | omega | rfl | (with_reducible assumption) | (with_reducible refine And.intro ?_ ?_) | (exact all_succ (by assumption) (by assumption)) | (exact wkC_same _ _) | (exact wkC_rows fun k hk => okB_fam hk) | (exact wkH_famR _ _) | (exact wkC_eq rfl (by simp [isIv])))); done)) | (refine Stuck.out ?_)))
    | ((fail_if_success (with_reducible show AW _ _ _ _)); simp (maxSteps := 2000000) only [go_sem, reduceIte, reduceCtorEq, Nat.reduceAdd, Nat.reduceLT, Nat.reduceLeDiff, Nat.reduceEqDiff, Nat.reduceMul, Nat.reduceSub, Nat.reduceBEq, Try.f20, zc_24, ty_24, fnok_35, zc_55, ty_55, le_25, fo_24, fnok_39, fnok_40, of_65_0, bytI, rowsI])
    | ((with_reducible refine hK _ ?_); clear hK K))
  all_goals (simp only [hcut.1, hcut.2]; exact ⟨⟨trivial, fun i o hi ho => by rw [hap]; exact famR_eqv _ _ _ _ hi ho⟩, trivial⟩)

theorem cut_p (n : Nat) (m : Nat → Nat) (D : Nat → Nat → Int) (hn : n ≤ 9223372036854775807) (hm : ∀ i, i < n → m i ≤ 9223372036854775807) (hD : BytD D) (r : Nat) (R : Nat → Int) (hr : r ≤ 9223372036854775807) (af : Int) (haf : -9223372036854775808 ≤ af ∧ af ≤ 9223372036854775807) : CallsP Try.prog 20 [.agg [.lst 1 (n) (rowsI (m) (D))], .one (.lst 1 (r) (bytI (R))), .one (.g (.int .i64 (af)))] (.tup [.agg [.lst 1 (cutN n m D r af) (rowsI (c64) (apH n D r R af.toNat))], .one (.g (.int .i64 (cutE n m D r af)))]) := by
  rcases disk_cases n m D hD with hs | ⟨hs, hd⟩ | ⟨k, hs, hk1, hk⟩
  · exact cut_b1 n m D hn hm hs r R hr af haf
  · exact cut_b2 n m D hs hD hd r R hr af haf
  · cases hc : cutOk n m D r af with
    | false => exact cut_b3 n m D hs hD k hk1 hk r R hr af haf hc
    | true =>
      have h1 := hc
      unfold cutOk at h1
      rw [Bool.and_eq_true, decide_eq_true_eq, vB_ok hs hk1 hk] at h1
      by_cases hf : endP (halfF n D k) (hlf n * 64) + (r + 3) ≤ hlf n * 64
      · exact cut_fit n m D hs hD k hk1 hk r R hr af haf h1.1 h1.2.1 h1.2.2 hf
      · exact cut_no n m D hs hD k hk1 hk r R hr af haf h1.1 h1.2.1 h1.2.2 hf

set_option maxRecDepth 100000 in
set_option maxHeartbeats 4000000 in
theorem append_p (n : Nat) (m : Nat → Nat) (D : Nat → Nat → Int) (hn : n ≤ 9223372036854775807) (hm : ∀ i, i < n → m i ≤ 9223372036854775807) (hD : BytD D) (r : Nat) (R : Nat → Int) (hr : r ≤ 9223372036854775807) : CallsP Try.prog 18 [.agg [.lst 1 (n) (rowsI (m) (D))], .one (.lst 1 (r) (bytI (R)))] (.tup [.agg [.lst 1 (cutN n m D r 1048576) (rowsI (c64) (apH n D r R 1048576))], .one (.g (.int .i64 (cutE n m D r 1048576)))]) := by
  refine CallsP_of Try.func18 rfl (by rw [Try.ntmps18]; simp) ?_
  simp only [Try.ntmps18, List.map_cons, List.map_nil, PT.tv, argEnv, Nat.zero_add, Nat.reduceAdd]
  repeat' (first
    | (with_reducible refine AW_seq_k fun K hK => ?_)
    | ((first | (with_reducible refine And.intro ?_ ?_) | (with_reducible refine Need.mk ?_)); focus (first | exact True.intro | (with_reducible assumption) | omega | (refine ⟨?_, ?_⟩ <;> omega) | (intro _; first | exact True.intro | (with_reducible assumption) | omega) | (intros; (repeat' (first | exact True.intro | omega | (with_reducible assumption) | (with_reducible refine And.intro ?_ ?_))); done) | (simp (disch := omega) only [Bool.and_eq_true, Bool.or_eq_true, decide_eq_true_eq, bne_iff_ne, ne_eq] at *; first | done | omega | (intros; omega)) | (simp; done) | (simp; omega) | (simp +contextual; done) | (intro h; rw [h]; rfl) | (intros; simp_all; done)))
    | (with_reducible refine AW_skip ?_)
    | (with_reducible refine AW_exit ?_)
    | (with_reducible refine AW_ret ?_)
    | (with_reducible refine retK_n ?_)
    | (with_reducible refine retK_n' ?_)
    | (with_reducible refine retH_n rfl rfl rfl ?_)
    | (with_reducible refine retH_n' rfl rfl rfl ?_)
    | (with_reducible refine retO_n ?_ ?_)
    | (with_reducible refine retO_n' ?_ ?_)
    | (with_reducible refine AW_condI ?_)
    | (with_reducible refine AW_block ?_)
    | ((with_reducible refine condN_t ?_ ?_) <;> (intro hc; (try simp only [Bool.and_eq_true, Bool.or_eq_true, Bool.not_eq_true', Bool.and_eq_false_iff, Bool.or_eq_false_iff, decide_eq_true_eq, decide_eq_false_iff_not, bne_iff_ne, beq_iff_eq, reduceCtorEq, bne_eq_false_iff_eq, beq_eq_false_iff_ne, Bool.not_eq_false', Int.not_le, Int.not_lt, Bool.not_not] at hc); (try (exfalso; first | contradiction | omega))))
    | (with_reducible refine AW_regionP 0 [0, 1] ?_)
    | (with_reducible refine AW_regionP 1 [1, 2, 4] ?_)
    | (refine callN_q (k := 20) fnok_20 (cut_p n m D hn hm hD r R hr 1048576 (by omega)) ?_ ?_)
    | ((fail_if_success (with_reducible show AW _ _ _ _)); simp (maxSteps := 2000000) only [go_sem, reduceIte, reduceCtorEq, Nat.reduceAdd, Nat.reduceLT, Nat.reduceLeDiff, Nat.reduceEqDiff, Nat.reduceMul, Nat.reduceSub, Nat.reduceBEq, Try.f18, zc_24, ty_24, fnok_20, bytI, rowsI])
    | ((with_reducible refine hK _ ?_); clear hK K))
  all_goals (intros; rfl)

def costV (n : Nat) (m : Nat → Nat) (D : Nat → Nat → Int) (r : Nat) : Int := if cutE n m D r 0 = 0 then ((secsN (endP (hv n D) (hlf n * 64)) r (hlf n * 64) * 64 + 64 : Nat) : Int) else 0
theorem cost_no {n : Nat} {m : Nat → Nat} {D : Nat → Nat → Int} {r : Nat} (h : cutOk n m D r 0 = false) : cutE n m D r 0 = 1 ∧ costV n m D r = 0 := by
  have e := (cut_no1 h).1
  refine ⟨e, ?_⟩
  unfold costV; rw [e]; rfl

set_option maxRecDepth 100000 in
set_option maxHeartbeats 4000000 in
theorem cost_b1 (n : Nat) (m : Nat → Nat) (D : Nat → Nat → Int) (hn : n ≤ 9223372036854775807) (hm : ∀ i, i < n → m i ≤ 9223372036854775807) (hs : sizedB n m = false) (r : Nat) (R : Nat → Int) (hr : r ≤ 9223372036854775807) : CallsP Try.prog 22 [.agg [.lst 1 (n) (rowsI (m) (D))], .one (.lst 1 (r) (bytI (R)))] (.tup [.one (.g (.int .i64 (costV n m D r))), .one (.g (.int .i64 (cutE n m D r 0)))]) := by
  have hcut := cost_no (r := r) (show cutOk n m D r 0 = false by unfold cutOk; rw [vB_no1 hs]; exact Bool.false_and _)
  refine CallsP_of Try.func22 rfl (by rw [Try.ntmps22]; simp) ?_
  simp only [Try.ntmps22, List.map_cons, List.map_nil, PT.tv, argEnv, Nat.zero_add, Nat.reduceAdd]
  repeat' (first
    | (with_reducible refine callDGK_f0 ?_)
    | (with_reducible refine callGK_f0 ?_)
    | (with_reducible refine AW_seq_k fun K hK => ?_)
    | ((first | (with_reducible refine And.intro ?_ ?_) | (with_reducible refine Need.mk ?_)); focus (first | exact True.intro | (with_reducible assumption) | omega | (refine ⟨?_, ?_⟩ <;> omega) | (intro _; first | exact True.intro | (with_reducible assumption) | omega) | (intros; (repeat' (first | exact True.intro | omega | (with_reducible assumption) | (with_reducible refine And.intro ?_ ?_))); done) | (simp (disch := omega) only [Bool.and_eq_true, Bool.or_eq_true, decide_eq_true_eq, bne_iff_ne, ne_eq] at *; first | done | omega | (intros; omega)) | (simp; done) | (simp; omega) | (simp +contextual; done) | (intro h; rw [h]; rfl) | (intros; simp_all; done)))
    | (with_reducible refine AW_skip ?_)
    | (with_reducible refine AW_exit ?_)
    | (with_reducible refine AW_ret ?_)
    | (with_reducible refine retK_n ?_)
    | (with_reducible refine retK_n' ?_)
    | (with_reducible refine retH_n rfl rfl rfl ?_)
    | (with_reducible refine retH_n' rfl rfl rfl ?_)
    | (with_reducible refine retO_n ?_ ?_)
    | (with_reducible refine retO_n' ?_ ?_)
    | (with_reducible refine AW_condI ?_)
    | (with_reducible refine AW_block ?_)
    | ((with_reducible refine condN_t ?_ ?_) <;> (intro hc; (try simp only [Bool.and_eq_true, Bool.or_eq_true, Bool.not_eq_true', Bool.and_eq_false_iff, Bool.or_eq_false_iff, decide_eq_true_eq, decide_eq_false_iff_not, bne_iff_ne, beq_iff_eq, reduceCtorEq, bne_eq_false_iff_eq, beq_eq_false_iff_ne, Bool.not_eq_false', Int.not_le, Int.not_lt, Bool.not_not] at hc); (skip); (try (exfalso; first | contradiction | omega))))
    | (with_reducible refine AW_regionP 0 [0, 1] ?_)
    | (with_reducible refine AW_regionP 1 [1, 2] ?_)
    | (with_reducible refine AW_regionP 2 [1, 2, 6, 8] ?_)
    | (with_reducible refine AW_regionP 3 [] ?_)
    | (with_reducible refine AW_regionP 4 [1, 2, 6] ?_)
    | (with_reducible refine AW_regionP 5 [1, 6, 9] ?_)
    | (with_reducible refine AW_regionP 6 [] ?_)
    | (with_reducible refine AW_regionP 7 [9] ?_)
    | (refine callN_q (k := 35) fnok_35 (open_b1 n m D hn hm hs) ?_ ?_)
    | ((fail_if_success (with_reducible show AW _ _ _ _)); simp (maxSteps := 2000000) only [go_sem, reduceIte, reduceCtorEq, Nat.reduceAdd, Nat.reduceLT, Nat.reduceLeDiff, Nat.reduceEqDiff, Nat.reduceMul, Nat.reduceSub, Nat.reduceBEq, Try.f22, ty_24, fnok_35, zc_55, ty_55, le_25, fnok_39, fnok_40, of_65_1, ty_3, bytI, rowsI])
    | ((fail_if_success (with_reducible show AW _ _ _ _)); simp (disch := omega) only [seaWrap, seaDiv, seaMod])
    | ((with_reducible refine hK _ ?_); clear hK K))
  all_goals (first | (simp only [hcut.1, hcut.2]; done) | (simp only [hcut.1, hcut.2]; first | exact ⟨rfl, rfl⟩ | exact ⟨⟨rfl, rfl⟩, rfl⟩ | exact ⟨trivial, trivial⟩ | rfl))

set_option maxRecDepth 100000 in
set_option maxHeartbeats 4000000 in
theorem cost_b2 (n : Nat) (m : Nat → Nat) (D : Nat → Nat → Int) (hs : Szd n m) (hD : BytD D) (hd : 1 < D 0 0) (r : Nat) (R : Nat → Int) (hr : r ≤ 9223372036854775807) : CallsP Try.prog 22 [.agg [.lst 1 (n) (rowsI (m) (D))], .one (.lst 1 (r) (bytI (R)))] (.tup [.one (.g (.int .i64 (costV n m D r))), .one (.g (.int .i64 (cutE n m D r 0)))]) := by
  have h3 := hs.h3
  have h64 := hs.h63
  have hm0 := hs.m 0 (by omega)
  have hm : ∀ i, i < n → m i ≤ 9223372036854775807 := fun i hi => by have := hs.m i hi; omega
  have hsz := hs.b
  have hd0 := hD 0 0
  have hd1 : (D 0 0 > 1) = True := eq_true hd
  have hcut := cost_no (r := r) (show cutOk n m D r 0 = false by unfold cutOk; rw [vB_no2 hd]; exact Bool.false_and _)
  refine CallsP_of Try.func22 rfl (by rw [Try.ntmps22]; simp) ?_
  simp only [Try.ntmps22, List.map_cons, List.map_nil, PT.tv, argEnv, Nat.zero_add, Nat.reduceAdd]
  repeat' (first
    | (with_reducible refine callDGK_f0 ?_)
    | (with_reducible refine callGK_f0 ?_)
    | (with_reducible refine AW_seq_k fun K hK => ?_)
    | ((first | (with_reducible refine And.intro ?_ ?_) | (with_reducible refine Need.mk ?_)); focus (first | exact True.intro | (with_reducible assumption) | omega | (refine ⟨?_, ?_⟩ <;> omega) | (intro _; first | exact True.intro | (with_reducible assumption) | omega) | (intros; (repeat' (first | exact True.intro | omega | (with_reducible assumption) | (with_reducible refine And.intro ?_ ?_))); done) | (simp (disch := omega) only [Bool.and_eq_true, Bool.or_eq_true, decide_eq_true_eq, bne_iff_ne, ne_eq] at *; first | done | omega | (intros; omega)) | (simp; done) | (simp; omega) | (simp +contextual; done) | (intro h; rw [h]; rfl) | (intros; simp_all; done)))
    | (with_reducible refine AW_skip ?_)
    | (with_reducible refine AW_exit ?_)
    | (with_reducible refine AW_ret ?_)
    | (with_reducible refine retK_n ?_)
    | (with_reducible refine retK_n' ?_)
    | (with_reducible refine retH_n rfl rfl rfl ?_)
    | (with_reducible refine retH_n' rfl rfl rfl ?_)
    | (with_reducible refine retO_n ?_ ?_)
    | (with_reducible refine retO_n' ?_ ?_)
    | (with_reducible refine AW_condI ?_)
    | (with_reducible refine AW_block ?_)
    | ((with_reducible refine condN_t ?_ ?_) <;> (intro hc; (try simp only [Bool.and_eq_true, Bool.or_eq_true, Bool.not_eq_true', Bool.and_eq_false_iff, Bool.or_eq_false_iff, decide_eq_true_eq, decide_eq_false_iff_not, bne_iff_ne, beq_iff_eq, reduceCtorEq, bne_eq_false_iff_eq, beq_eq_false_iff_ne, Bool.not_eq_false', Int.not_le, Int.not_lt, Bool.not_not] at hc); (skip); (try (exfalso; first | contradiction | omega))))
    | (with_reducible refine AW_regionP 0 [0, 1] ?_)
    | (with_reducible refine AW_regionP 1 [1, 2] ?_)
    | (with_reducible refine AW_regionP 2 [1, 2, 6, 8] ?_)
    | (with_reducible refine AW_regionP 3 [] ?_)
    | (with_reducible refine AW_regionP 4 [1, 2, 6] ?_)
    | (with_reducible refine AW_regionP 5 [1, 6, 9] ?_)
    | (with_reducible refine AW_regionP 6 [] ?_)
    | (with_reducible refine AW_regionP 7 [9] ?_)
    | (refine callN_q (k := 35) fnok_35 (open_b2 n m D hs hD hd) ?_ ?_)
    | ((fail_if_success (with_reducible show AW _ _ _ _)); simp (maxSteps := 2000000) only [go_sem, reduceIte, reduceCtorEq, Nat.reduceAdd, Nat.reduceLT, Nat.reduceLeDiff, Nat.reduceEqDiff, Nat.reduceMul, Nat.reduceSub, Nat.reduceBEq, Try.f22, ty_24, fnok_35, zc_55, ty_55, le_25, fnok_39, fnok_40, of_65_1, ty_3, bytI, rowsI])
    | ((fail_if_success (with_reducible show AW _ _ _ _)); simp (disch := omega) only [seaWrap, seaDiv, seaMod])
    | ((with_reducible refine hK _ ?_); clear hK K))
  all_goals (first | (simp only [hcut.1, hcut.2]; done) | (simp only [hcut.1, hcut.2]; first | exact ⟨rfl, rfl⟩ | exact ⟨⟨rfl, rfl⟩, rfl⟩ | exact ⟨trivial, trivial⟩ | rfl))

set_option maxRecDepth 100000 in
set_option maxHeartbeats 4000000 in
theorem cost_b3 (n : Nat) (m : Nat → Nat) (D : Nat → Nat → Int) (hs : Szd n m) (hD : BytD D) (k : Nat) (hk1 : k ≤ 1) (hk : D 0 0 = (k : Int)) (r : Nat) (R : Nat → Int) (hr : r ≤ 9223372036854775807) (hc : cutOk n m D r 0 = false) : CallsP Try.prog 22 [.agg [.lst 1 (n) (rowsI (m) (D))], .one (.lst 1 (r) (bytI (R)))] (.tup [.one (.g (.int .i64 (costV n m D r))), .one (.g (.int .i64 (cutE n m D r 0)))]) := by
  have h3 := hs.h3
  have h64 := hs.h63
  have hl := hs.hlf
  have hm0 := hs.m 0 (by omega)
  have hm : ∀ i, i < n → m i ≤ 9223372036854775807 := fun i hi => by have := hs.m i hi; omega
  have hsz := hs.b
  have hd0 := hD 0 0
  have hd1 : ((k : Int) > 1) = False := eq_false (by omega)
  have hv_ := vB_ok hs hk1 hk
  have hcut := cost_no hc
  have hbad : okP (halfF n D k) (hlf n * 64) = true → ¬ r ≤ 65535 := by
    intro h1 h2
    unfold cutOk at hc
    rw [hv_, h1] at hc
    simp at hc
    omega
  refine CallsP_of Try.func22 rfl (by rw [Try.ntmps22]; simp) ?_
  simp only [Try.ntmps22, List.map_cons, List.map_nil, PT.tv, argEnv, Nat.zero_add, Nat.reduceAdd]
  repeat' (first
    | (with_reducible refine AW_seq_k fun K hK => ?_)
    | ((first | (with_reducible refine And.intro ?_ ?_) | (with_reducible refine Need.mk ?_)); focus (first | exact True.intro | (with_reducible assumption) | omega | (refine ⟨?_, ?_⟩ <;> omega) | (intro _; first | exact True.intro | (with_reducible assumption) | omega) | (intros; (repeat' (first | exact True.intro | omega | (with_reducible assumption) | (with_reducible refine And.intro ?_ ?_))); done) | (simp (disch := omega) only [Bool.and_eq_true, Bool.or_eq_true, decide_eq_true_eq, bne_iff_ne, ne_eq] at *; first | done | omega | (intros; omega)) | (simp; done) | (simp; omega) | (simp +contextual; done) | (intro h; rw [h]; rfl) | (intros; simp_all; done)))
    | (with_reducible refine AW_skip ?_)
    | (with_reducible refine AW_exit ?_)
    | (with_reducible refine AW_ret ?_)
    | (with_reducible refine retK_n ?_)
    | (with_reducible refine retK_n' ?_)
    | (with_reducible refine retH_n rfl rfl rfl ?_)
    | (with_reducible refine retH_n' rfl rfl rfl ?_)
    | (with_reducible refine retO_n ?_ ?_)
    | (with_reducible refine retO_n' ?_ ?_)
    | (with_reducible refine AW_condI ?_)
    | (with_reducible refine AW_block ?_)
    | ((with_reducible refine condN_t ?_ ?_) <;> (intro hc; (try simp only [Bool.and_eq_true, Bool.or_eq_true, Bool.not_eq_true', Bool.and_eq_false_iff, Bool.or_eq_false_iff, decide_eq_true_eq, decide_eq_false_iff_not, bne_iff_ne, beq_iff_eq, reduceCtorEq, bne_eq_false_iff_eq, beq_eq_false_iff_ne, Bool.not_eq_false', Int.not_le, Int.not_lt, Bool.not_not] at hc); ((try (exfalso; have h9 := hbad hc.1; omega))); (try (exfalso; first | contradiction | omega))))
    | (with_reducible refine AW_regionP 0 [0, 1] ?_)
    | (with_reducible refine AW_regionP 1 [1, 2] ?_)
    | (with_reducible refine AW_regionP 2 [1, 2, 6, 8] ?_)
    | (with_reducible refine AW_regionP 3 [] ?_)
    | (with_reducible refine AW_regionP 4 [1, 2, 6] ?_)
    | (with_reducible refine AW_regionP 5 [1, 6, 9] ?_)
    | (with_reducible refine AW_regionP 6 [] ?_)
    | (with_reducible refine AW_regionP 7 [9] ?_)
    | (refine callN_q (k := 35) fnok_35 (open_ok n m D hs hD k hk1 hk) ?_ ?_)
    | ((fail_if_success (with_reducible show AW _ _ _ _)); simp (maxSteps := 2000000) only [go_sem, reduceIte, reduceCtorEq, Nat.reduceAdd, Nat.reduceLT, Nat.reduceLeDiff, Nat.reduceEqDiff, Nat.reduceMul, Nat.reduceSub, Nat.reduceBEq, Try.f22, ty_24, fnok_35, zc_55, ty_55, le_25, fnok_39, fnok_40, of_65_1, ty_3, bytI, rowsI])
    | ((fail_if_success (with_reducible show AW _ _ _ _)); simp (disch := omega) only [seaWrap, seaDiv, seaMod])
    | ((with_reducible refine hK _ ?_); clear hK K))
  all_goals (first | (simp only [hcut.1, hcut.2]; done) | (simp only [hcut.1, hcut.2]; first | exact ⟨rfl, rfl⟩ | exact ⟨⟨rfl, rfl⟩, rfl⟩ | exact ⟨trivial, trivial⟩ | rfl))

set_option maxRecDepth 100000 in
set_option maxHeartbeats 4000000 in
theorem cost_nof (n : Nat) (m : Nat → Nat) (D : Nat → Nat → Int) (hs : Szd n m) (hD : BytD D) (k : Nat) (hk1 : k ≤ 1) (hk : D 0 0 = (k : Int)) (r : Nat) (R : Nat → Int) (hr : r ≤ 9223372036854775807) (hok : okP (halfF n D k) (hlf n * 64) = true) (h6 : r ≤ 65535) (hno : ¬ endP (halfF n D k) (hlf n * 64) + (r + 3) ≤ hlf n * 64) : CallsP Try.prog 22 [.agg [.lst 1 (n) (rowsI (m) (D))], .one (.lst 1 (r) (bytI (R)))] (.tup [.one (.g (.int .i64 (costV n m D r))), .one (.g (.int .i64 (cutE n m D r 0)))]) := by
  have h3 := hs.h3
  have h64 := hs.h63
  have hl := hs.hlf
  have hm0 := hs.m 0 (by omega)
  have hm : ∀ i, i < n → m i ≤ 9223372036854775807 := fun i hi => by have := hs.m i hi; omega
  have hsz := hs.b
  have hd0 := hD 0 0
  have hd1 : ((k : Int) > 1) = False := eq_false (by omega)
  have hv_ := vB_ok hs hk1 hk
  have hh_ := hv_k (n := n) hk
  have hle := endP_le (halfF n D k) (hlf n * 64)
  have hcut : cutE n m D r 0 = 17 ∧ costV n m D r = 0 := by
    have e : cutE n m D r 0 = 17 := by unfold cutE cutOk fitB; rw [hv_, hok, decide_eq_true ⟨h6, Int.le_refl 0⟩, hh_, decide_eq_false hno]; rfl
    refine ⟨e, ?_⟩
    unfold costV; rw [e]; rfl
  refine CallsP_of Try.func22 rfl (by rw [Try.ntmps22]; simp) ?_
  simp only [Try.ntmps22, List.map_cons, List.map_nil, PT.tv, argEnv, Nat.zero_add, Nat.reduceAdd]
  repeat' (first
    | (with_reducible refine AW_litG (c := Code.region 4 _ false) [1, 2, 6] (some [.iv (.lst 1 n (rowsI m D))] :: some [] :: some [] :: some [] :: some (rowV (bV (halfF n D k)) (hlf n * 64)) :: some ([.iv (.g (.int .i64 (firstN n k : Int))), .slc 4 0 (hlf n * 64) 1, .iv (.g (.int .i64 (endP (halfF n D k) (hlf n * 64) : Int)))]) :: none :: none :: none :: none :: none :: none :: none :: none :: none :: none :: none :: none :: none :: none :: none :: none :: none :: none :: none :: none :: none :: none :: none :: none :: none :: none :: ([])) (GOk.nil _) ?_ ?_ (AW_regionP 4 [1, 2, 6] ?_))
    | (with_reducible refine AW_seq_k fun K hK => ?_)
    | ((first | (with_reducible refine And.intro ?_ ?_) | (with_reducible refine Need.mk ?_)); focus (first | exact True.intro | (with_reducible assumption) | omega | (refine ⟨?_, ?_⟩ <;> omega) | (intro _; first | exact True.intro | (with_reducible assumption) | omega) | (intros; (repeat' (first | exact True.intro | omega | (with_reducible assumption) | (with_reducible refine And.intro ?_ ?_))); done) | (simp (disch := omega) only [Bool.and_eq_true, Bool.or_eq_true, decide_eq_true_eq, bne_iff_ne, ne_eq] at *; first | done | omega | (intros; omega)) | (simp; done) | (simp; omega) | (simp +contextual; done) | (intro h; rw [h]; rfl) | (intros; simp_all; done)))
    | (with_reducible refine AW_skip ?_)
    | (with_reducible refine AW_exit ?_)
    | (with_reducible refine AW_ret ?_)
    | (with_reducible refine retK_n ?_)
    | (with_reducible refine retK_n' ?_)
    | (with_reducible refine retH_n rfl rfl rfl ?_)
    | (with_reducible refine retH_n' rfl rfl rfl ?_)
    | (with_reducible refine retO_n ?_ ?_)
    | (with_reducible refine retO_n' ?_ ?_)
    | (with_reducible refine AW_condI ?_)
    | (with_reducible refine AW_block ?_)
    | ((with_reducible refine condN_t ?_ ?_) <;> (intro hc; (try simp only [Bool.and_eq_true, Bool.or_eq_true, Bool.not_eq_true', Bool.and_eq_false_iff, Bool.or_eq_false_iff, decide_eq_true_eq, decide_eq_false_iff_not, bne_iff_ne, beq_iff_eq, reduceCtorEq, bne_eq_false_iff_eq, beq_eq_false_iff_ne, Bool.not_eq_false', Int.not_le, Int.not_lt, Bool.not_not] at hc); (skip); (try (exfalso; first | contradiction | omega))))
    | (with_reducible refine AW_regionP 0 [0, 1] ?_)
    | (with_reducible refine AW_regionP 1 [1, 2] ?_)
    | (with_reducible refine AW_regionP 2 [1, 2, 6, 8] ?_)
    | (with_reducible refine AW_regionP 3 [] ?_)
    | (with_reducible refine AW_regionP 4 [1, 2, 6] ?_)
    | (with_reducible refine AW_regionP 5 [1, 6, 9] ?_)
    | (with_reducible refine AW_regionP 6 [] ?_)
    | (with_reducible refine AW_regionP 7 [9] ?_)
    | (refine callN_hpq (k := 35) fnok_35 (open_n n m D hs hD k hk1 hk hok _ 4 rfl) ?_ ?_)
    | (refine callN_hpq (k := 39) fnok_39 (begin_h [.iv (.lst 1 n (rowsI m D))] [] [] [] (by simp [isIv]) (by simp) (by simp) (by simp) (bV (halfF n D k)) (hlf n * 64) (firstN n k : Int) (endP (halfF n D k) (hlf n * 64) : Int) n m D hs.h63 hs.m 1048576) ?_ ?_)
    | (refine callN_hpq (k := 40) fnok_40 (append_no [.iv (.lst 1 n (rowsI m D))] [] [] [] (by simp [isIv]) (by simp) (by simp) (by simp) (halfF n D k) (hlf n * 64) (firstN n k) (endP (halfF n D k) (hlf n * 64)) n D r R hs.h63 1048576 (by omega) (by omega) (by omega) (by have := firstN_le (n := n) hk1; omega) (by omega) hno hle) ?_ ?_)
    | ((with_reducible refine Told.mk ?_); simp only [go_sem, reduceIte, reduceCtorEq, Nat.reduceAdd, Nat.reduceLT, Nat.reduceLeDiff, Nat.reduceEqDiff, Nat.reduceMul, Nat.reduceSub, Nat.reduceBEq, bytI, rowsI] <;> (first | exact True.intro | (((try simp (disch := omega) only [seaWrap, Int.natCast_add, Int.cast_ofNat_Int, and_true, true_and, and_self]); (repeat' (first | exact True.intro | omega | rfl | (with_reducible assumption) | (with_reducible refine And.intro ?_ ?_) | (exact all_succ (by assumption) (by assumption)) | (exact wkC_same _ _) | (exact wkC_rows fun k hk => okB_fam hk) | (exact wkH_famR _ _) | (exact wkC_eq rfl (by simp [isIv])))); done)) | (refine Stuck.out ?_)))
    | ((fail_if_success (with_reducible show AW _ _ _ _)); simp (maxSteps := 2000000) only [go_sem, reduceIte, reduceCtorEq, Nat.reduceAdd, Nat.reduceLT, Nat.reduceLeDiff, Nat.reduceEqDiff, Nat.reduceMul, Nat.reduceSub, Nat.reduceBEq, Try.f22, ty_24, fnok_35, zc_55, ty_55, le_25, fnok_39, fnok_40, of_65_1, ty_3, bytI, rowsI])
    | ((fail_if_success (with_reducible show AW _ _ _ _)); simp (disch := omega) only [seaWrap, seaDiv, seaMod])
    | ((with_reducible refine hK _ ?_); clear hK K))
  all_goals (first | (simp only [hcut.1, hcut.2]; done) | (simp only [hcut.1, hcut.2]; first | exact ⟨rfl, rfl⟩ | exact ⟨⟨rfl, rfl⟩, rfl⟩ | exact ⟨trivial, trivial⟩ | rfl))

set_option maxRecDepth 100000 in
set_option maxHeartbeats 4000000 in
theorem cost_fit (n : Nat) (m : Nat → Nat) (D : Nat → Nat → Int) (hs : Szd n m) (hD : BytD D) (k : Nat) (hk1 : k ≤ 1) (hk : D 0 0 = (k : Int)) (r : Nat) (R : Nat → Int) (hr : r ≤ 9223372036854775807) (hok : okP (halfF n D k) (hlf n * 64) = true) (h6 : r ≤ 65535) (hfit : endP (halfF n D k) (hlf n * 64) + (r + 3) ≤ hlf n * 64) : CallsP Try.prog 22 [.agg [.lst 1 (n) (rowsI (m) (D))], .one (.lst 1 (r) (bytI (R)))] (.tup [.one (.g (.int .i64 (costV n m D r))), .one (.g (.int .i64 (cutE n m D r 0)))]) := by
  have h3 := hs.h3
  have h64 := hs.h63
  have hl := hs.hlf
  have hm0 := hs.m 0 (by omega)
  have hm : ∀ i, i < n → m i ≤ 9223372036854775807 := fun i hi => by have := hs.m i hi; omega
  have hsz := hs.b
  have hd0 := hD 0 0
  have hd1 : ((k : Int) > 1) = False := eq_false (by omega)
  have hv_ := vB_ok hs hk1 hk
  have hh_ := hv_k (n := n) hk
  have hle := endP_le (halfF n D k) (hlf n * 64)
  have hsec : secsN (endP (halfF n D k) (hlf n * 64)) r (hlf n * 64) ≤ 31 := by unfold secsN lastN; omega
  have hcut : cutE n m D r 0 = 0 ∧ costV n m D r = ((secsN (endP (halfF n D k) (hlf n * 64)) r (hlf n * 64) * 64 + 64 : Nat) : Int) := by
    have e : cutE n m D r 0 = 0 := by unfold cutE cutOk fitB; rw [hv_, hok, decide_eq_true ⟨h6, Int.le_refl 0⟩, hh_, decide_eq_true hfit]; rfl
    refine ⟨e, ?_⟩
    unfold costV; rw [e, hh_]; rfl
  refine CallsP_of Try.func22 rfl (by rw [Try.ntmps22]; simp) ?_
  simp only [Try.ntmps22, List.map_cons, List.map_nil, PT.tv, argEnv, Nat.zero_add, Nat.reduceAdd]
  repeat' (first
    | (with_reducible refine AW_litG (c := Code.region 4 _ false) [1, 2, 6] (some [.iv (.lst 1 n (rowsI m D))] :: some [] :: some [] :: some [] :: some (rowV (bV (halfF n D k)) (hlf n * 64)) :: some ([.iv (.g (.int .i64 (firstN n k : Int))), .slc 4 0 (hlf n * 64) 1, .iv (.g (.int .i64 (endP (halfF n D k) (hlf n * 64) : Int)))]) :: none :: none :: none :: none :: none :: none :: none :: none :: none :: none :: none :: none :: none :: none :: none :: none :: none :: none :: none :: none :: none :: none :: none :: none :: none :: none :: ([])) (GOk.nil _) ?_ ?_ (AW_regionP 4 [1, 2, 6] ?_))
    | (with_reducible refine AW_seq_k fun K hK => ?_)
    | ((first | (with_reducible refine And.intro ?_ ?_) | (with_reducible refine Need.mk ?_)); focus (first | exact True.intro | (with_reducible assumption) | omega | (refine ⟨?_, ?_⟩ <;> omega) | (intro _; first | exact True.intro | (with_reducible assumption) | omega) | (intros; (repeat' (first | exact True.intro | omega | (with_reducible assumption) | (with_reducible refine And.intro ?_ ?_))); done) | (simp (disch := omega) only [Bool.and_eq_true, Bool.or_eq_true, decide_eq_true_eq, bne_iff_ne, ne_eq] at *; first | done | omega | (intros; omega)) | (simp; done) | (simp; omega) | (simp +contextual; done) | (intro h; rw [h]; rfl) | (intros; simp_all; done)))
    | (with_reducible refine AW_skip ?_)
    | (with_reducible refine AW_exit ?_)
    | (with_reducible refine AW_ret ?_)
    | (with_reducible refine retK_n ?_)
    | (with_reducible refine retK_n' ?_)
    | (with_reducible refine retH_n rfl rfl rfl ?_)
    | (with_reducible refine retH_n' rfl rfl rfl ?_)
    | (with_reducible refine retO_n ?_ ?_)
    | (with_reducible refine retO_n' ?_ ?_)
    | (with_reducible refine AW_condI ?_)
    | (with_reducible refine AW_block ?_)
    | ((with_reducible refine condN_t ?_ ?_) <;> (intro hc; (try simp only [Bool.and_eq_true, Bool.or_eq_true, Bool.not_eq_true', Bool.and_eq_false_iff, Bool.or_eq_false_iff, decide_eq_true_eq, decide_eq_false_iff_not, bne_iff_ne, beq_iff_eq, reduceCtorEq, bne_eq_false_iff_eq, beq_eq_false_iff_ne, Bool.not_eq_false', Int.not_le, Int.not_lt, Bool.not_not] at hc); (skip); (try (exfalso; first | contradiction | omega))))
    | (with_reducible refine AW_regionP 0 [0, 1] ?_)
    | (with_reducible refine AW_regionP 1 [1, 2] ?_)
    | (with_reducible refine AW_regionP 2 [1, 2, 6, 8] ?_)
    | (with_reducible refine AW_regionP 3 [] ?_)
    | (with_reducible refine AW_regionP 4 [1, 2, 6] ?_)
    | (with_reducible refine AW_regionP 5 [1, 6, 9] ?_)
    | (with_reducible refine AW_regionP 6 [] ?_)
    | (with_reducible refine AW_regionP 7 [9] ?_)
    | (refine callN_hpq (k := 35) fnok_35 (open_n n m D hs hD k hk1 hk hok _ 4 rfl) ?_ ?_)
    | (refine callN_hpq (k := 39) fnok_39 (begin_h [.iv (.lst 1 n (rowsI m D))] [] [] [] (by simp [isIv]) (by simp) (by simp) (by simp) (bV (halfF n D k)) (hlf n * 64) (firstN n k : Int) (endP (halfF n D k) (hlf n * 64) : Int) n m D hs.h63 hs.m 1048576) ?_ ?_)
    | (refine callN_hpq (k := 40) fnok_40 (append_ok [.iv (.lst 1 n (rowsI m D))] [] [] [] (by simp [isIv]) (by simp) (by simp) (by simp) (halfF n D k) (hlf n * 64) (firstN n k) (endP (halfF n D k) (hlf n * 64)) n D r R hs.h63 1048576 (by omega) (by omega) (by omega) (by have := firstN_le (n := n) hk1; omega) (by omega) hfit) ?_ ?_)
    | ((with_reducible refine Told.mk ?_); simp only [go_sem, reduceIte, reduceCtorEq, Nat.reduceAdd, Nat.reduceLT, Nat.reduceLeDiff, Nat.reduceEqDiff, Nat.reduceMul, Nat.reduceSub, Nat.reduceBEq, bytI, rowsI] <;> (first | exact True.intro | (((try simp (disch := omega) only [seaWrap, Int.natCast_add, Int.cast_ofNat_Int, and_true, true_and, and_self]); (repeat' (first | exact True.intro | omega | rfl | (with_reducible assumption) | (with_reducible refine And.intro ?_ ?_) | (exact all_succ (by assumption) (by assumption)) | (exact wkC_same _ _) | (exact wkC_rows fun k hk => okB_fam hk) | (exact wkH_famR _ _) | (exact wkC_eq rfl (by simp [isIv])))); done)) | (refine Stuck.out ?_)))
    | ((fail_if_success (with_reducible show AW _ _ _ _)); simp (maxSteps := 2000000) only [go_sem, reduceIte, reduceCtorEq, Nat.reduceAdd, Nat.reduceLT, Nat.reduceLeDiff, Nat.reduceEqDiff, Nat.reduceMul, Nat.reduceSub, Nat.reduceBEq, Try.f22, ty_24, fnok_35, zc_55, ty_55, le_25, fnok_39, fnok_40, of_65_1, ty_3, bytI, rowsI])
    | ((fail_if_success (with_reducible show AW _ _ _ _)); simp (disch := omega) only [seaWrap, seaDiv, seaMod])
    | ((with_reducible refine hK _ ?_); clear hK K))
  all_goals (first | (simp only [hcut.1, hcut.2]; done) | (simp only [hcut.1, hcut.2]; first | exact ⟨rfl, rfl⟩ | exact ⟨⟨rfl, rfl⟩, rfl⟩ | exact ⟨trivial, trivial⟩ | rfl))

theorem cost_p (n : Nat) (m : Nat → Nat) (D : Nat → Nat → Int) (hn : n ≤ 9223372036854775807) (hm : ∀ i, i < n → m i ≤ 9223372036854775807) (hD : BytD D) (r : Nat) (R : Nat → Int) (hr : r ≤ 9223372036854775807) : CallsP Try.prog 22 [.agg [.lst 1 (n) (rowsI (m) (D))], .one (.lst 1 (r) (bytI (R)))] (.tup [.one (.g (.int .i64 (costV n m D r))), .one (.g (.int .i64 (cutE n m D r 0)))]) := by
  rcases disk_cases n m D hD with hs | ⟨hs, hd⟩ | ⟨k, hs, hk1, hk⟩
  · exact cost_b1 n m D hn hm hs r R hr
  · exact cost_b2 n m D hs hD hd r R hr
  · cases hc : cutOk n m D r 0 with
    | false => exact cost_b3 n m D hs hD k hk1 hk r R hr hc
    | true =>
      have h1 := hc
      unfold cutOk at h1
      rw [Bool.and_eq_true, decide_eq_true_eq, vB_ok hs hk1 hk] at h1
      by_cases hf : endP (halfF n D k) (hlf n * 64) + (r + 3) ≤ hlf n * 64
      · exact cost_fit n m D hs hD k hk1 hk r R hr h1.1 h1.2.1 hf
      · exact cost_nof n m D hs hD k hk1 hk r R hr h1.1 h1.2.1 hf

end Go.Proofs.Ytifoncmlelinjaa
