/- C: walks on abstract states. -/
import Derived.Test.YtifoncmlelinjaaB
import Derived.Test.YtifoncmlelinjaaGr
set_option linter.unusedVariables false
set_option linter.unusedSimpArgs false
namespace Go.Proofs.Ytifoncmlelinjaa
open Go.RowKit Go.Sea
attribute [local go_sem] callK_N gf gk gdrop lkL setL lsF ltAll rdyL bodyF roundQ roundS loopQ loopS jumpOf inLs yV yA bAV zipPut purgeG List.tail_cons Option.isNone_none Option.isNone_some callGK_f callDK_f callDGK_f retN retHN blockA arun_nil arun_plain arun_guard plainF guardF guardB arunD_nil arunD_plain arunD_guard plainDF guardDF guardDB AS.ent Eff.noApp Eff.tgt ftF AV.refs TV.refs CV.refs LV.refs Op.operands Call.operands List.append_toArray List.push_toArray List.flatMap_cons List.flatMap_nil List.toList_toArray Option.toArray nidF nidA List.reverse_cons List.reverse_nil opF AS.ev constA lk AS.get AV.tv AV.nd AS.eff AS.put argEnv PT.tv PV.av AV.mbOf hset hget TV.cells dstOk thenA gB isB toB TV.bool? TV.int? intF loadF storeF fieldF indexF lenF sliceF optI appF minmaxF ipCells fillF partsF lvsF TV.lv LV.tv purgeE purgeC purgeH AV.purge CV.purge AV.has TV.has CV.has LV.has calleeF argsF tvsF toPT toIV toIVs toPTs toPV iA bA List.map_cons List.map_nil List.length_nil List.length_cons List.getElem?_cons_zero List.getElem?_cons_succ List.getElem?_nil Option.getD_some Option.getD_none Option.bind_some Option.bind_none List.take_succ_cons List.take_zero List.drop_succ_cons List.drop_zero List.take_nil List.drop_nil List.cons_append List.nil_append List.append_nil List.getD_cons_zero List.getD_cons_succ Option.map_some Option.map_none Option.isSome_some Option.isSome_none List.size_toArray List.any_cons List.any_nil List.mem_cons if_true if_false ite_true ite_false cond_true cond_false Nat.zero_add Nat.add_zero Nat.sub_zero Nat.le_refl Nat.zero_mul Nat.mul_zero Nat.one_mul Nat.mul_one Int.toNat_zero Int.toNat_natCast Bool.or_false Bool.false_or Bool.or_true Bool.true_or Bool.and_true Bool.true_and Bool.and_false Bool.false_and beq_self_eq_true beq_true beq_false Bool.not_true Bool.not_false and_true true_and and_false false_and and_self imp_self Bool.cond_false_right Bool.cond_true_left implies_true forall_const true_implies false_implies Option.some.injEq Prod.mk.injEq ne_eq not_false_eq_true not_true_eq_false eq_self Nat.lt_irrefl Nat.not_lt_zero op2F ncF slice3F offF slArrF copyF clearF toArrF callDK_t calleeT eqN barOp boF seaMin seaMax seaNat1 seaNat2 Value.bool.injEq Value.int.injEq srcF lstC TV.dp IV.eqv PT.eqv PV.eqv All2 keepE hupd callZ_N AS.frz AS.frzW frzs frzsOk frzOk frzE frzA frzT frzC frzG frzH hdel cmpS eqF eqC gvs eqVs eqV decide_true resF tupA inlQ okL okGL okG nextL wkH wkC wkV nilA nilC AV.ok TV.ok CV.ok LV.ok okB forall_eq_or_imp forall_eq List.not_mem_nil List.mem_singleton true_or or_true or_false false_or or_self exists_prop AV.t.injEq TV.one.injEq CV.iv.injEq IV.g.injEq TV.agg.injEq List.cons.injEq repC_0 repC_1 repC_2 repC_3 rowV_len rowV_pur rowV_has rowV_frz frzC isIv_iv civ_iv rowV_all List.map_append retON AV.to TV.to CV.to
theorem fnok_58 : fnOk Try.prog 58 = true := by kernel_rfl
theorem fnok_61 : fnOk Try.prog 61 = true := by kernel_rfl
theorem fo_55 : fieldsOk Try.prog 55 = true := by kernel_rfl
theorem pl_55_0 : placeF Try.prog 55 0 = some (0, 1) := by kernel_rfl
theorem pl_55_1 : placeF Try.prog 55 1 = some (1, 1) := by kernel_rfl
theorem ty_55 : tyD Try.prog 55 = some (true, 3) := by kernel_rfl
theorem zc_55 : zeroC Try.prog 55 = some [.iv (.g (.int .i64 0)), .iv (.g (.slice none 0 0)), .iv (.g (.int .i64 0))] := by kernel_rfl

def flatF (D : Nat → Nat → Int) (p : Nat) : Int := D (p / 64) (p % 64)
def bV (f : Nat → Int) (j : Nat) : IV := .g (.int .u8 (f j))
theorem flat_snoc (D : Nat → Nat → Int) (k : Nat) : rowV (bV (flatF D)) (k * 64) ++ rowV (fun j => .g (.int .u8 (D k j))) 64 = rowV (bV (flatF D)) ((k + 1) * 64) := by
  rw [rowV_app, show (k + 1) * 64 = k * 64 + 64 by omega]
  refine rowV_congr fun j hj => ?_
  by_cases h : j < k * 64
  · rw [if_pos h]
  · rw [if_neg h]
    obtain ⟨q, rfl⟩ : ∃ q, j = k * 64 + q := ⟨j - k * 64, by omega⟩
    unfold bV flatF
    rw [show (k * 64 + q) / 64 = k by omega, show (k * 64 + q) % 64 = q by omega, show k * 64 + q - k * 64 = q by omega]

set_option maxRecDepth 100000 in
set_option maxHeartbeats 4000000 in
theorem concat_n (n : Nat) (m : Nat → Nat) (D : Nat → Nat → Int) (h1 : 0 < n) (hn : n ≤ 63) (hm : ∀ i, i < n → m i = 64) : CallsN Try.prog 58 (List.map PT.tv [.one (.lst 1 (n) (rowsI (m) (D)))]) (rowV (bV (flatF D)) (n * 64)) (fun i => .t (.one (.slc i 0 (n * 64) 1))) := by
  refine CallsN_of (args := [.one (.lst 1 (n) (rowsI (m) (D)))]) 0 Try.func58 rfl (by rw [Try.ntmps58]; simp) (rowV_iv _ _) (by intro h; simp [rowV] at h; omega) ?_
  simp only [Try.ntmps58, List.map_cons, List.map_nil, PT.tv, argEnv, Nat.zero_add, Nat.reduceAdd]
  repeat' (first
    | (with_reducible refine AW_seq_k fun K hK => ?_)
    | ((first | (with_reducible refine And.intro ?_ ?_) | (with_reducible refine Need.mk ?_)); focus (first | exact True.intro | (with_reducible assumption) | omega | (refine ⟨?_, ?_⟩ <;> omega) | (intro _; first | exact True.intro | (with_reducible assumption) | omega) | (intros; (repeat' (first | exact True.intro | omega | (with_reducible assumption) | (with_reducible refine And.intro ?_ ?_))); done) | (simp (disch := omega) only [Bool.and_eq_true, Bool.or_eq_true, decide_eq_true_eq, bne_iff_ne, ne_eq] at *; first | done | omega | (intros; omega)) | (simp; done) | (simp; omega) | (simp +contextual; done) | (intro h; rw [h]; rfl) | (intros; simp_all; done)))
    | (with_reducible refine AW_skip ?_)
    | (with_reducible refine AW_exit ?_)
    | (with_reducible refine AW_ret ?_)
    | (with_reducible refine retK_n ?_)
    | (with_reducible refine retK_n' ?_)
    | (with_reducible refine retH_n rfl rfl rfl ?_)
    | (with_reducible refine retH_n' rfl rfl rfl ?_)
    | (with_reducible refine retO_n ?_ ?_)
    | (with_reducible refine retO_n' ?_ ?_)
    | (with_reducible refine AW_condI ?_)
    | (with_reducible refine AW_block ?_)
    | ((with_reducible refine condN_t ?_ ?_) <;> (intro hc; (try simp only [Bool.and_eq_true, Bool.or_eq_true, Bool.not_eq_true', Bool.and_eq_false_iff, Bool.or_eq_false_iff, decide_eq_true_eq, decide_eq_false_iff_not, bne_iff_ne, beq_iff_eq, reduceCtorEq, bne_eq_false_iff_eq, beq_eq_false_iff_ne, Bool.not_eq_false', Int.not_le, Int.not_lt, Bool.not_not] at hc); (skip); (try (exfalso; first | contradiction | omega))))
    | (with_reducible refine AW_regionP 0 [0] ?_)
    | (with_reducible refine AW_regionP 1 [0] ?_)
    | (with_reducible refine AW_regionP 2 [0, 3] ?_)
    | (with_reducible refine AW_regionP 3 [0, 3, 9, 10, 11] ?_)
    | (with_reducible refine AW_regionP 4 [0, 3, 9, 10, 11] ?_)
    | (with_reducible refine AW_regionP 5 [0, 3, 5, 9, 10, 11] ?_)
    | (with_reducible refine AW_regionP 6 [0, 3, 9, 10, 11] ?_)
    | (with_reducible refine AW_regionP 7 [0, 3, 9, 10, 11] ?_)
    | (with_reducible refine AW_regionP 8 [0, 3, 9, 10, 11] ?_)
    | (with_reducible refine AW_regionP 9 [0, 3] ?_)
    | (with_reducible refine AW_regionP 10 [0, 6] ?_)
    | (with_reducible refine AW_regionP 11 [6, 25, 26, 27] ?_)
    | (with_reducible refine AW_regionP 12 [6, 25, 26, 27] ?_)
    | (with_reducible refine AW_regionP 13 [6, 8, 25, 26, 27] ?_)
    | (with_reducible refine AW_regionP 14 [6, 25, 26, 27] ?_)
    | (with_reducible refine AW_regionP 15 [6] ?_)
    | (refine callN_hpq (k := 61) fnok_61 (grow_n (k * 64) (by omega) _ 0 rfl) ?_ ?_)
    | ((with_reducible refine AW_loopQ (c := (Code.seq (Code.region 3 _ _) _)) (ι := Nat) [0, 9, 10] (fun k => [(3, iA .i64 ((k * 64 : Nat) : Int)), (11, iA .i64 (k : Int))]) (fun k => []) (fun k => k ≤ n) (fun k => n - k) 0 ?lg3 ?l13 ?l23 ?li3 ?lr3); (case' lg3 => rintro k _); (case' li3 => try (first | trivial | omega | (simp; done) | (simp; omega))); (case' lr3 => rintro k hk KR hR3; have hmk := hm k; simp only [keepE, hupd, hset, lk, if_true, if_false, Nat.reduceEqDiff, reduceIte, List.cons_append, List.nil_append, bytI, rowsI, lstC_row, maxLen]))
    | ((with_reducible refine hR3 _ (k + 1) ?_); (try clear hR3 KR))
    | ((with_reducible refine AW_loopQ (c := (Code.seq (Code.region 11 _ _) _)) (ι := Nat) [25, 26] (fun q => [(6, .t (.one (.slc 0 0 (q * 64) 1))), (27, iA .i64 (q : Int))]) (fun q => [(0, rowV (bV (flatF D)) (q * 64))]) (fun q => q ≤ n) (fun q => n - q) 0 ?lg11 ?l111 ?l211 ?li11 ?lr11); (case' lg11 => rintro q _); (case' li11 => try (first | trivial | omega | (simp; done) | (simp; omega))); (case' lr11 => rintro q hq KR hR11; have hmq := hm q; simp only [keepE, hupd, hset, lk, if_true, if_false, Nat.reduceEqDiff, reduceIte, List.cons_append, List.nil_append, bytI, rowsI, lstC_row, maxLen]))
    | ((with_reducible refine hR11 _ (q + 1) ?_); (try clear hR11 KR))
    | ((with_reducible refine Told.mk ?_); simp only [go_sem, reduceIte, reduceCtorEq, Nat.reduceAdd, Nat.reduceLT, Nat.reduceLeDiff, Nat.reduceEqDiff, Nat.reduceMul, Nat.reduceSub, Nat.reduceBEq, bytI, rowsI, lstC_row, maxLen] <;> (first | exact True.intro | (((try simp (disch := omega) only [seaWrap, Int.natCast_add, Int.cast_ofNat_Int, and_true, true_and, and_self]); (repeat' (first | exact True.intro | omega | rfl | (with_reducible assumption) | (with_reducible refine And.intro ?_ ?_) | (exact all_succ (by assumption) (by assumption)) | (exact wkC_same _ _) | (exact wkC_row _ (fun j hj => rfl)) | (exact wkC_snoc' _ rfl) | (exact wkC_snoc (fun j hj => rfl) rfl))); done)) | (((try simp (disch := omega) only [seaWrap, Int.natCast_add, Int.cast_ofNat_Int, and_true, true_and, and_self]); (repeat' (first | exact True.intro | omega | rfl | (with_reducible assumption) | (with_reducible refine And.intro ?_ ?_) | (exact all_succ (by assumption) (by assumption)) | (rw [hmq (by omega), flat_snoc]; exact wkC_same _ _) | (congr 1; omega))); done)) | (refine Stuck.out ?_)))
    | ((fail_if_success (with_reducible show AW _ _ _ _)); simp (maxSteps := 2000000) only [go_sem, reduceIte, reduceCtorEq, Nat.reduceAdd, Nat.reduceLT, Nat.reduceLeDiff, Nat.reduceEqDiff, Nat.reduceMul, Nat.reduceSub, Nat.reduceBEq, Try.f58, le_22, sl_22, ar_22, ty_25, le_25, fnok_61, sl_25, bytI, rowsI, lstC_row, maxLen])
    | ((fail_if_success (with_reducible show AW _ _ _ _)); simp (disch := omega) only [seaWrap, seaDiv, seaMod])
    | ((with_reducible refine hK _ ?_); clear hK K)
    | (with_reducible apply_assumption -exfalso only [*]))
  all_goals (obtain rfl : n = q := (by omega); first | rfl | exact fun _ => rfl)

theorem concat_q (n : Nat) (m : Nat → Nat) (D : Nat → Nat → Int) (h1 : 0 < n) (hn : n ≤ 63) (hm : ∀ i, i < n → m i = 64) {x : IV} (hx : x.eqv (.lst 1 n (rowsI m D))) : CallsN Try.prog 58 [.one (.iv x)] (rowV (bV (flatF D)) (n * 64)) (fun i => .t (.one (.slc i 0 (n * 64) 1))) :=
  CallsN.eqv (args' := [.one x]) (concat_n n m D h1 hn hm) ⟨hx, trivial⟩
def hlf (n : Nat) : Nat := (n - 1) / 2
def halfF (n : Nat) (D : Nat → Nat → Int) (k : Nat) : Nat → Int := flatF fun i => D (firstN n k + i)
structure Szd (n : Nat) (m : Nat → Nat) : Prop where
  h3 : 3 ≤ n
  h63 : n ≤ 63
  odd : n % 2 = 1
  m : ∀ i, i < n → m i = 64
theorem Szd.hlf {n : Nat} {m : Nat → Nat} (h : Szd n m) : 2 * hlf n + 1 = n ∧ 1 ≤ hlf n ∧ hlf n ≤ 31 := by
  have := h.h3; have := h.h63; have := h.odd
  unfold Go.Proofs.Ytifoncmlelinjaa.hlf
  omega
theorem hlf_int {n : Nat} (h : 1 ≤ n) : ((n : Int) - 1) / 2 = hlf n := by unfold hlf; omega

set_option maxRecDepth 100000 in
set_option maxHeartbeats 4000000 in
theorem of_0 (n : Nat) (m : Nat → Nat) (D : Nat → Nat → Int) (hs : Szd n m) : CallsN Try.prog 47 (List.map PT.tv [.agg [.lst 1 (n) (rowsI (m) (D))], .one (.g (.int .i64 (0)))]) (rowV (bV (halfF n D 0)) (hlf n * 64)) (fun i => .t (.agg [.iv (.g (.int .i64 (firstN n 0 : Int))), .slc i 0 (hlf n * 64) 1, .iv (.g (.int .i64 0))])) := by
  have hh := hlf_int (show 1 ≤ n by have := hs.h3; omega)
  have hl := hs.hlf
  have e0 : firstN n 0 = 1 := by simp [firstN, hlf]
  refine CallsN_of (args := [.agg [.lst 1 (n) (rowsI (m) (D))], .one (.g (.int .i64 (0)))]) 2 Try.func47 rfl (by rw [Try.ntmps47]; simp) (rowV_iv _ _) (by intro h; have := hs.hlf; have := congrArg List.length h; simp [rowV] at this; omega) ?_
  simp only [Try.ntmps47, List.map_cons, List.map_nil, PT.tv, argEnv, Nat.zero_add, Nat.reduceAdd]
  repeat' (first
    | (with_reducible refine AW_seq_k fun K hK => ?_)
    | ((first | (with_reducible refine And.intro ?_ ?_) | (with_reducible refine Need.mk ?_)); focus (first | exact True.intro | (with_reducible assumption) | omega | (refine ⟨?_, ?_⟩ <;> omega) | (intro _; first | exact True.intro | (with_reducible assumption) | omega) | (intros; (repeat' (first | exact True.intro | omega | (with_reducible assumption) | (with_reducible refine And.intro ?_ ?_))); done) | (simp (disch := omega) only [Bool.and_eq_true, Bool.or_eq_true, decide_eq_true_eq, bne_iff_ne, ne_eq] at *; first | done | omega | (intros; omega)) | (simp; done) | (simp; omega) | (simp +contextual; done) | (intro h; rw [h]; rfl) | (intros; simp_all; done)))
    | (with_reducible refine AW_skip ?_)
    | (with_reducible refine AW_exit ?_)
    | (with_reducible refine AW_ret ?_)
    | (with_reducible refine retK_n ?_)
    | (with_reducible refine retK_n' ?_)
    | (with_reducible refine retH_n rfl rfl rfl ?_)
    | (with_reducible refine retH_n' rfl rfl rfl ?_)
    | (with_reducible refine retO_n ?_ ?_)
    | (with_reducible refine retO_n' ?_ ?_)
    | (with_reducible refine AW_condI ?_)
    | (with_reducible refine AW_block ?_)
    | ((with_reducible refine condN_t ?_ ?_) <;> (intro hc; (try simp only [Bool.and_eq_true, Bool.or_eq_true, Bool.not_eq_true', Bool.and_eq_false_iff, Bool.or_eq_false_iff, decide_eq_true_eq, decide_eq_false_iff_not, bne_iff_ne, beq_iff_eq, reduceCtorEq, bne_eq_false_iff_eq, beq_eq_false_iff_ne, Bool.not_eq_false', Int.not_le, Int.not_lt, Bool.not_not] at hc); (try (exfalso; first | contradiction | omega))))
    | (with_reducible refine AW_regionP 0 [0, 1] ?_)
    | (with_reducible refine AW_regionP 1 [1, 2, 4] ?_)
    | (with_reducible refine AW_regionP 2 [1, 2, 4, 5] ?_)
    | (refine callN_hpq (k := 58) fnok_58 (concat_q (hlf n) (fun i => m (firstN n 0 + i)) (fun i => D (firstN n 0 + i)) (by omega) (by omega) (fun i hi => hs.m _ (by omega)) (by refine ⟨rfl, by omega, fun i o hi ho => ?_⟩; rw [show (1 + 0 * (hlf n : Int)).toNat = firstN n 0 by omega]; exact IV.eqv_refl _) _ 2 rfl) ?_ ?_)
    | ((fail_if_success (with_reducible show AW _ _ _ _)); simp (maxSteps := 2000000) only [go_sem, reduceIte, reduceCtorEq, Nat.reduceAdd, Nat.reduceLT, Nat.reduceLeDiff, Nat.reduceEqDiff, Nat.reduceMul, Nat.reduceSub, Nat.reduceBEq, Try.f47, zc_55, of_24_0, ty_22, le_22, sl_22, fnok_58, fo_55, pl_55_0, pl_55_1, ty_55, bytI, rowsI, hh])
    | ((fail_if_success (with_reducible show AW _ _ _ _)); simp (disch := omega) only [seaWrap, seaDiv, seaMod])
    | ((with_reducible refine hK _ ?_); clear hK K))
  all_goals first | rfl | (intro i; rw [e0]; simp; try omega)

set_option maxRecDepth 100000 in
set_option maxHeartbeats 4000000 in
theorem of_1 (n : Nat) (m : Nat → Nat) (D : Nat → Nat → Int) (hs : Szd n m) : CallsN Try.prog 47 (List.map PT.tv [.agg [.lst 1 (n) (rowsI (m) (D))], .one (.g (.int .i64 (1)))]) (rowV (bV (halfF n D 1)) (hlf n * 64)) (fun i => .t (.agg [.iv (.g (.int .i64 (firstN n 1 : Int))), .slc i 0 (hlf n * 64) 1, .iv (.g (.int .i64 0))])) := by
  have hh := hlf_int (show 1 ≤ n by have := hs.h3; omega)
  have hl := hs.hlf
  have e0 : firstN n 1 = 1 + hlf n := by simp [firstN, hlf]
  refine CallsN_of (args := [.agg [.lst 1 (n) (rowsI (m) (D))], .one (.g (.int .i64 (1)))]) 2 Try.func47 rfl (by rw [Try.ntmps47]; simp) (rowV_iv _ _) (by intro h; have := hs.hlf; have := congrArg List.length h; simp [rowV] at this; omega) ?_
  simp only [Try.ntmps47, List.map_cons, List.map_nil, PT.tv, argEnv, Nat.zero_add, Nat.reduceAdd]
  repeat' (first
    | (with_reducible refine AW_seq_k fun K hK => ?_)
    | ((first | (with_reducible refine And.intro ?_ ?_) | (with_reducible refine Need.mk ?_)); focus (first | exact True.intro | (with_reducible assumption) | omega | (refine ⟨?_, ?_⟩ <;> omega) | (intro _; first | exact True.intro | (with_reducible assumption) | omega) | (intros; (repeat' (first | exact True.intro | omega | (with_reducible assumption) | (with_reducible refine And.intro ?_ ?_))); done) | (simp (disch := omega) only [Bool.and_eq_true, Bool.or_eq_true, decide_eq_true_eq, bne_iff_ne, ne_eq] at *; first | done | omega | (intros; omega)) | (simp; done) | (simp; omega) | (simp +contextual; done) | (intro h; rw [h]; rfl) | (intros; simp_all; done)))
    | (with_reducible refine AW_skip ?_)
    | (with_reducible refine AW_exit ?_)
    | (with_reducible refine AW_ret ?_)
    | (with_reducible refine retK_n ?_)
    | (with_reducible refine retK_n' ?_)
    | (with_reducible refine retH_n rfl rfl rfl ?_)
    | (with_reducible refine retH_n' rfl rfl rfl ?_)
    | (with_reducible refine retO_n ?_ ?_)
    | (with_reducible refine retO_n' ?_ ?_)
    | (with_reducible refine AW_condI ?_)
    | (with_reducible refine AW_block ?_)
    | ((with_reducible refine condN_t ?_ ?_) <;> (intro hc; (try simp only [Bool.and_eq_true, Bool.or_eq_true, Bool.not_eq_true', Bool.and_eq_false_iff, Bool.or_eq_false_iff, decide_eq_true_eq, decide_eq_false_iff_not, bne_iff_ne, beq_iff_eq, reduceCtorEq, bne_eq_false_iff_eq, beq_eq_false_iff_ne, Bool.not_eq_false', Int.not_le, Int.not_lt, Bool.not_not] at hc); (try (exfalso; first | contradiction | omega))))
    | (with_reducible refine AW_regionP 0 [0, 1] ?_)
    | (with_reducible refine AW_regionP 1 [1, 2, 4] ?_)
    | (with_reducible refine AW_regionP 2 [1, 2, 4, 5] ?_)
    | (refine callN_hpq (k := 58) fnok_58 (concat_q (hlf n) (fun i => m (firstN n 1 + i)) (fun i => D (firstN n 1 + i)) (by omega) (by omega) (fun i hi => hs.m _ (by omega)) (by refine ⟨rfl, by omega, fun i o hi ho => ?_⟩; rw [show (1 + 1 * (hlf n : Int)).toNat = firstN n 1 by omega]; exact IV.eqv_refl _) _ 2 rfl) ?_ ?_)
    | ((fail_if_success (with_reducible show AW _ _ _ _)); simp (maxSteps := 2000000) only [go_sem, reduceIte, reduceCtorEq, Nat.reduceAdd, Nat.reduceLT, Nat.reduceLeDiff, Nat.reduceEqDiff, Nat.reduceMul, Nat.reduceSub, Nat.reduceBEq, Try.f47, zc_55, of_24_0, ty_22, le_22, sl_22, fnok_58, fo_55, pl_55_0, pl_55_1, ty_55, bytI, rowsI, hh])
    | ((fail_if_success (with_reducible show AW _ _ _ _)); simp (disch := omega) only [seaWrap, seaDiv, seaMod])
    | ((with_reducible refine hK _ ?_); clear hK K))
  all_goals first | rfl | (intro i; rw [e0]; simp; try omega)

end Go.Proofs.Ytifoncmlelinjaa
