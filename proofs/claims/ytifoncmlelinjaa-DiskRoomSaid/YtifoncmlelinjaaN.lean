/- N: walks on abstract states. -/
import Derived.Test.YtifoncmlelinjaaM
set_option linter.unusedVariables false
set_option linter.unusedSimpArgs false
namespace Go.Proofs.Ytifoncmlelinjaa
open Go.RowKit Go.Sea
attribute [local go_sem] callK_N gf gk gdrop lkL setL lsF ltAll rdyL bodyF roundQ roundS loopQ loopS jumpOf inLs yV yA bAV zipPut purgeG_nil purgeG_cons List.tail_cons Option.isNone_none Option.isNone_some callGK_f callDK_f callDGK_f retN retHN blockA arun_nil arun_plain arun_guard plainF guardF guardB arunD_nil arunD_plain arunD_guard plainDF guardDF guardDB AS.ent Eff.noApp Eff.tgt ftF AV.refs TV.refs CV.refs LV.refs Op.operands Call.operands List.append_toArray List.push_toArray List.flatMap_cons List.flatMap_nil List.toList_toArray Option.toArray nidF nidA List.reverse_cons List.reverse_nil opF AS.ev constA lk AS.get AV.tv AV.nd AS.eff AS.put argEnv PT.tv PV.av AV.mbOf hset hget TV.cells dstOk thenA gB isB toB TV.bool? TV.int? intF loadF storeF fieldF indexF lenF sliceF optI appF minmaxF ipCells fillF partsF lvsF TV.lv LV.tv purgeE purgeC purgeH AV.purge CV.purge AV.has TV.has CV.has LV.has calleeF argsF tvsF toPT toIV toIVs toPTs toPV iA bA List.map_cons List.map_nil List.length_nil List.length_cons List.getElem?_cons_zero List.getElem?_cons_succ List.getElem?_nil Option.getD_some Option.getD_none Option.bind_some Option.bind_none List.take_succ_cons List.take_zero List.drop_succ_cons List.drop_zero List.take_nil List.drop_nil List.cons_append List.nil_append List.append_nil List.getD_cons_zero List.getD_cons_succ Option.map_some Option.map_none Option.isSome_some Option.isSome_none List.size_toArray List.any_cons List.any_nil List.mem_cons if_true if_false ite_true ite_false cond_true cond_false Nat.zero_add Nat.add_zero Nat.sub_zero Nat.le_refl Nat.zero_mul Nat.mul_zero Nat.one_mul Nat.mul_one Int.toNat_zero Int.toNat_natCast Bool.or_false Bool.false_or Bool.or_true Bool.true_or Bool.and_true Bool.true_and Bool.and_false Bool.false_and beq_self_eq_true beq_true beq_false Bool.not_true Bool.not_false and_true true_and and_false false_and and_self imp_self Bool.cond_false_right Bool.cond_true_left implies_true forall_const true_implies false_implies Option.some.injEq Prod.mk.injEq ne_eq not_false_eq_true not_true_eq_false eq_self Nat.lt_irrefl Nat.not_lt_zero op2F ncF slice3F offF slArrF copyF clearF toArrF callDK_t calleeT eqN barOp boF seaMin seaMax seaNat1 seaNat2 Value.bool.injEq Value.int.injEq srcF TV.dp IV.eqv PT.eqv PV.eqv All2 keepE hupd callZ_N AS.frz AS.frzW frzs frzsOk frzOk frzE frzA frzT frzC frzG frzH hdel cmpS eqF eqC gvs eqVs eqV decide_true resF tupA inlQ okL okGL okG nextL nextF barOpN AS.mv mvE mvG_nil mvG_cons mvH mvO AV.mv TV.mv CV.mv LV.mv famL_mv famL_purge famL_snoc famL_zero wkH wkC wkV nilA nilC AV.ok TV.ok CV.ok LV.ok okB forall_eq_or_imp forall_eq List.not_mem_nil List.mem_singleton true_or or_true or_false false_or or_self exists_prop AV.t.injEq TV.one.injEq CV.iv.injEq IV.g.injEq TV.agg.injEq List.cons.injEq repC_0 repC_1 repC_2 repC_3 rowV_len rowV_pur rowV_has rowV_frz frzC isIv_iv civ_iv rowV_all List.map_append retON AV.to TV.to CV.to


/-- A list of writes: a sector's index, its bytes. -/
def wrI (S : Nat → Nat) (W : Nat → Nat → Int) (i o : Nat) : IV := if o = 0 then .g (.int .i64 (S i : Int)) else .lst 1 64 (bytI (W i))
/-- The sectors behind the first i writes, of which af bytes were written. -/
def dn (D : Nat → Nat → Int) (S : Nat → Nat) (W : Nat → Nat → Int) (af : Nat) : Nat → Nat → Nat → Int
  | 0 => D
  | i + 1 => fun s j => if s = S i ∧ i * 64 + j < af then W i j else dn D S W af i s j
/-- .. and k bytes of one more. -/
def dnK (D : Nat → Nat → Int) (S : Nat → Nat) (W : Nat → Nat → Int) (af i k : Nat) (s j : Nat) : Int := if s = S i ∧ j < k then W i j else dn D S W af i s j
theorem dn_stop (D : Nat → Nat → Int) (S : Nat → Nat) (W : Nat → Nat → Int) (af i : Nat) (h : af ≤ i * 64) : ∀ q, i ≤ q → ∀ s j, dn D S W af q s j = dn D S W af i s j
  | 0, hq, s, j => by obtain rfl : i = 0 := (by omega)
                      rfl
  | q + 1, hq, s, j => by
    by_cases e : i = q + 1
    · rw [e]
    · simp only [dn]
      rw [if_neg (by omega)]
      exact dn_stop D S W af i h q (by omega) s j
theorem dnK_end {D : Nat → Nat → Int} {S : Nat → Nat} {W : Nat → Nat → Int} {af i k s j : Nat} (h1 : k ≤ 64) (h2 : k = 64 ∨ af ≤ i * 64 + k) (h3 : ∀ j, j < k → i * 64 + j < af) (hj : j < 64) : dnK D S W af i k s j = dn D S W af (i + 1) s j := by
  unfold dnK
  simp only [dn]
  by_cases h : s = S i ∧ j < k
  · rw [if_pos h, if_pos ⟨h.1, h3 j h.2⟩]
  · rw [if_neg h, if_neg (by omega)]

set_option maxRecDepth 100000 in
set_option maxHeartbeats 4000000 in
theorem half_n (n : Nat) (m : Nat → Nat) (D : Nat → Nat → Int) (hs : Szd n m) (k : Nat) (hk1 : k ≤ 1) : CallsN Try.prog 38 (List.map PT.tv [.agg [.lst 1 (n) (rowsI (m) (D))], .one (.g (.int .i64 ((k : Int))))]) (rowV (bV (halfF n D k)) (hlf n * 64)) (fun i => .t (.one (.slc i 0 (hlf n * 64) 1))) := by
  have h3 := hs.h3
  have h64 := hs.h63
  have hl := hs.hlf
  have hf := firstN_le (n := n) hk1
  have hmm := hs.m
  refine CallsN_of (args := [.agg [.lst 1 (n) (rowsI (m) (D))], .one (.g (.int .i64 ((k : Int))))]) 1 Try.func38 rfl (by rw [Try.ntmps38]; simp) (rowV_iv _ _) (by intro h; have := hs.hlf; have := congrArg List.length h; simp [rowV] at this; omega) ?_
  simp only [Try.ntmps38, List.map_cons, List.map_nil, PT.tv, argEnv, Nat.zero_add, Nat.reduceAdd]
  repeat' (first
    | (with_reducible refine AW_seq_k fun K hK => ?_)
    | ((first | (with_reducible refine And.intro ?_ ?_) | (with_reducible refine Need.mk ?_)); focus (first | exact True.intro | (with_reducible assumption) | omega | (refine ⟨?_, ?_⟩ <;> omega) | (intro _; first | exact True.intro | (with_reducible assumption) | omega) | (intros; (repeat' (first | exact True.intro | omega | (with_reducible assumption) | (with_reducible refine And.intro ?_ ?_))); done) | (simp (disch := omega) only [Bool.and_eq_true, Bool.or_eq_true, decide_eq_true_eq, bne_iff_ne, ne_eq] at *; first | done | omega | (intros; omega)) | (simp; done) | (simp; omega) | (simp +contextual; done) | (intro h; rw [h]; rfl) | (intros; simp_all; done)))
    | (with_reducible refine AW_skip ?_)
    | (with_reducible refine AW_exit ?_)
    | (with_reducible refine AW_ret ?_)
    | (with_reducible refine retK_n ?_)
    | (with_reducible refine retK_n' ?_)
    | (with_reducible refine retH_n rfl rfl rfl ?_)
    | (with_reducible refine retH_n' rfl rfl rfl ?_)
    | (with_reducible refine retO_n ?_ ?_)
    | (with_reducible refine retO_n' ?_ ?_)
    | (with_reducible refine AW_condI ?_)
    | (with_reducible refine AW_block ?_)
    | ((with_reducible refine condN_t ?_ ?_) <;> (intro hc; (try simp only [Bool.and_eq_true, Bool.or_eq_true, Bool.not_eq_true', Bool.and_eq_false_iff, Bool.or_eq_false_iff, decide_eq_true_eq, decide_eq_false_iff_not, bne_iff_ne, beq_iff_eq, reduceCtorEq, bne_eq_false_iff_eq, beq_eq_false_iff_ne, Bool.not_eq_false', Int.not_le, Int.not_lt, Bool.not_not] at hc); (skip); (try (exfalso; first | contradiction | omega))))
    | (with_reducible refine AW_regionP 0 [0, 1] ?_)
    | (with_reducible refine AW_regionP 1 [1, 2] ?_)
    | (with_reducible refine AW_regionP 2 [1, 2, 5] ?_)
    | (with_reducible refine AW_regionP 3 [1, 2, 5, 6] ?_)
    | (with_reducible refine AW_regionP 4 [1, 2, 5, 6] ?_)
    | (with_reducible refine AW_regionP 5 [1, 2, 5, 6] ?_)
    | (with_reducible refine AW_regionP 6 [1, 2, 5, 6, 7] ?_)
    | (with_reducible refine AW_regionP 7 [1, 2, 5, 6, 7] ?_)
    | (with_reducible refine AW_regionP 8 [1, 2, 5, 6, 7] ?_)
    | (with_reducible refine AW_regionP 9 [5] ?_)
    | (refine callN_q (k := 34) fnok_34 (first_p n m D k (by omega) (by omega) (by omega)) ?_ ?_)
    | (refine callN_q (k := 34) fnok_34 (first_q n m D k (by omega) (by omega) hk1) ?_ ?_)
    | ((with_reducible refine AW_loopQ (c := (Code.seq (Code.seq (Code.region 3 _ _) _) _)) (ι := Nat) [1, 2] (fun q => [(5, .t (.one (.slc 1 0 (q * 64) 1))), (6, iA .i64 ((firstN n k + q : Nat) : Int))]) (fun q => [(1, rowV (bV (halfF n D k)) (q * 64))]) (fun q => q ≤ hlf n) (fun q => hlf n - q) 0 ?lg3 ?l13 ?l23 ?li3 ?lr3); (case' lg3 => rintro q _); (case' li3 => try (first | trivial | omega | (simp; done) | (simp; omega))); (case' lr3 => rintro q hq KR hR3; (have hmq := hmm (firstN n k + q)); simp only [keepE, hupd, hset, lk, if_true, if_false, Nat.reduceEqDiff, reduceIte, List.cons_append, List.nil_append, bytI, rowsI, lstC_row, maxLen, toNat3]))
    | ((with_reducible refine hR3 _ (q + 1) ?_); (try clear hR3 KR))
    | ((with_reducible refine AW_loopQ (c := (Code.seq (Code.seq (Code.region 6 _ _) _) _)) (ι := Nat) [1, 2, 6] (fun j => [(5, .t (.one (.slc 1 0 (q * 64 + j) 1))), (7, iA .i64 (j : Int))]) (fun j => [(1, rowV (bV (halfF n D k)) (q * 64 + j))]) (fun j => j ≤ 64) (fun j => 64 - j) 0 ?lg6 ?l16 ?l26 ?li6 ?lr6); (case' lg6 => rintro j _); (case' li6 => try (first | trivial | omega | (simp; done) | (simp; omega))); (case' lr6 => rintro j hj KR hR6; skip; simp only [keepE, hupd, hset, lk, if_true, if_false, Nat.reduceEqDiff, reduceIte, List.cons_append, List.nil_append, bytI, rowsI, lstC_row, maxLen, toNat3]))
    | ((with_reducible refine hR6 _ (j + 1) ?_); (try clear hR6 KR))
    | ((with_reducible refine Told.mk ?_); simp only [go_sem, reduceIte, reduceCtorEq, Nat.reduceAdd, Nat.reduceLT, Nat.reduceLeDiff, Nat.reduceEqDiff, Nat.reduceMul, Nat.reduceSub, Nat.reduceBEq, bytI, rowsI, lstC_row, maxLen, toNat3] <;> (first | exact True.intro | (((try simp (disch := omega) only [seaWrap, Int.natCast_add, Int.cast_ofNat_Int, and_true, true_and, and_self]); (repeat' (first | exact True.intro | omega | rfl | (with_reducible assumption) | (with_reducible refine And.intro ?_ ?_) | (exact all_succ (by assumption) (by assumption)) | (exact wkC_same _ _) | ((congr 1; omega)) | (exact wkC_eq (congrArg (rowV _) (by omega)) (rowV_iv _ _)))); done)) | (((try simp (disch := omega) only [seaWrap, Int.natCast_add, Int.cast_ofNat_Int, and_true, true_and, and_self]); (repeat' (first | exact True.intro | omega | rfl | (with_reducible assumption) | (with_reducible refine And.intro ?_ ?_) | (exact all_succ (by assumption) (by assumption)) | (exact wkC_same _ _) | (exact wkC_snoc' (congrArg _ (half_at (by omega)).symm)))); done)) | (refine Stuck.out ?_)))
    | ((fail_if_success (with_reducible show AW _ _ _ _)); simp (maxSteps := 2000000) only [go_sem, reduceIte, reduceCtorEq, Nat.reduceAdd, Nat.reduceLT, Nat.reduceLeDiff, Nat.reduceEqDiff, Nat.reduceMul, Nat.reduceSub, Nat.reduceBEq, Try.f38, ty_24, fnok_34, of_24_0, ty_22, sl_22, ar_22, ty_25, sl_25, ar_25, ty_5, zc_5, bytI, rowsI, lstC_row, maxLen, toNat3])
    | ((fail_if_success (with_reducible show AW _ _ _ _)); simp (disch := omega) only [seaWrap, seaDiv, seaMod])
    | ((with_reducible refine hK _ ?_); clear hK K)
    | (with_reducible apply_assumption -exfalso only [*]))
  all_goals (obtain rfl : q = hlf n := (by omega); first | rfl | exact fun _ => rfl)

set_option maxRecDepth 100000 in
set_option maxHeartbeats 4000000 in
theorem sector_n (n : Nat) (f : Nat → Int) (k : Nat) (hn : n ≤ 9223372036854775807) (hk : (k + 1) * 64 ≤ n) : CallsN Try.prog 56 (List.map PT.tv [.one (.lst 1 (n) (bytI (f))), .one (.g (.int .i64 ((k : Int))))]) (rowV (bV fun j => f (k * 64 + j)) 64) (fun i => .t (.one (.slc i 0 64 1))) := by
  refine CallsN_of (args := [.one (.lst 1 (n) (bytI (f))), .one (.g (.int .i64 ((k : Int))))]) 0 Try.func56 rfl (by rw [Try.ntmps56]; simp) (rowV_iv _ _) (by intro h; have := congrArg List.length h; simp [rowV] at this) ?_
  simp only [Try.ntmps56, List.map_cons, List.map_nil, PT.tv, argEnv, Nat.zero_add, Nat.reduceAdd]
  repeat' (first
    | (with_reducible refine AW_seq_k fun K hK => ?_)
    | ((first | (with_reducible refine And.intro ?_ ?_) | (with_reducible refine Need.mk ?_)); focus (first | exact True.intro | (with_reducible assumption) | omega | (refine ⟨?_, ?_⟩ <;> omega) | (intro _; first | exact True.intro | (with_reducible assumption) | omega) | (intros; (repeat' (first | exact True.intro | omega | (with_reducible assumption) | (with_reducible refine And.intro ?_ ?_))); done) | (simp (disch := omega) only [Bool.and_eq_true, Bool.or_eq_true, decide_eq_true_eq, bne_iff_ne, ne_eq] at *; first | done | omega | (intros; omega)) | (simp; done) | (simp; omega) | (simp +contextual; done) | (intro h; rw [h]; rfl) | (intros; simp_all; done)))
    | (with_reducible refine AW_skip ?_)
    | (with_reducible refine AW_exit ?_)
    | (with_reducible refine AW_ret ?_)
    | (with_reducible refine retK_n ?_)
    | (with_reducible refine retK_n' ?_)
    | (with_reducible refine retH_n rfl rfl rfl ?_)
    | (with_reducible refine retH_n' rfl rfl rfl ?_)
    | (with_reducible refine retO_n ?_ ?_)
    | (with_reducible refine retO_n' ?_ ?_)
    | (with_reducible refine AW_condI ?_)
    | (with_reducible refine AW_block ?_)
    | ((with_reducible refine condN_t ?_ ?_) <;> (intro hc; (try simp only [Bool.and_eq_true, Bool.or_eq_true, Bool.not_eq_true', Bool.and_eq_false_iff, Bool.or_eq_false_iff, decide_eq_true_eq, decide_eq_false_iff_not, bne_iff_ne, beq_iff_eq, reduceCtorEq, bne_eq_false_iff_eq, beq_eq_false_iff_ne, Bool.not_eq_false', Int.not_le, Int.not_lt, Bool.not_not] at hc); (skip); (try (exfalso; first | contradiction | omega))))
    | (with_reducible refine AW_regionP 0 [0, 1] ?_)
    | (with_reducible refine AW_regionP 1 [0, 1] ?_)
    | (with_reducible refine AW_regionP 2 [0, 1, 5] ?_)
    | (with_reducible refine AW_regionP 3 [0, 1, 5, 6] ?_)
    | (with_reducible refine AW_regionP 4 [0, 1, 5, 6] ?_)
    | (with_reducible refine AW_regionP 5 [0, 1, 5, 6] ?_)
    | (with_reducible refine AW_regionP 6 [5] ?_)
    | ((with_reducible refine AW_loopQ (c := (Code.seq (Code.seq (Code.region 3 _ _) _) _)) (ι := Nat) [0, 1] (fun j => [(5, .t (.one (.slc 0 0 j 1))), (6, iA .i64 ((k * 64 + j : Nat) : Int))]) (fun j => [(0, rowV (bV fun j => f (k * 64 + j)) j)]) (fun j => j ≤ 64) (fun j => 64 - j) 0 ?lg3 ?l13 ?l23 ?li3 ?lr3); (case' lg3 => rintro j _); (case' li3 => try (first | trivial | omega | (simp; done) | (simp; omega))); (case' lr3 => rintro j hj KR hR3; skip; simp only [keepE, hupd, hset, lk, if_true, if_false, Nat.reduceEqDiff, reduceIte, List.cons_append, List.nil_append, bytI, rowsI, lstC_row, maxLen]))
    | ((with_reducible refine hR3 _ (j + 1) ?_); (try clear hR3 KR))
    | ((with_reducible refine Told.mk ?_); simp only [go_sem, reduceIte, reduceCtorEq, Nat.reduceAdd, Nat.reduceLT, Nat.reduceLeDiff, Nat.reduceEqDiff, Nat.reduceMul, Nat.reduceSub, Nat.reduceBEq, bytI, rowsI, lstC_row, maxLen] <;> (first | exact True.intro | (((try simp (disch := omega) only [seaWrap, Int.natCast_add, Int.cast_ofNat_Int, and_true, true_and, and_self]); (repeat' (first | exact True.intro | omega | rfl | (with_reducible assumption) | (with_reducible refine And.intro ?_ ?_) | (exact all_succ (by assumption) (by assumption)) | (exact wkC_same _ _) | (exact wkC_row _ (fun j hj => rfl)) | (exact wkC_snoc' rfl) | (exact wkC_snoc (fun j hj => rfl) rfl))); done)) | (refine Stuck.out ?_)))
    | ((fail_if_success (with_reducible show AW _ _ _ _)); simp (maxSteps := 2000000) only [go_sem, reduceIte, reduceCtorEq, Nat.reduceAdd, Nat.reduceLT, Nat.reduceLeDiff, Nat.reduceEqDiff, Nat.reduceMul, Nat.reduceSub, Nat.reduceBEq, Try.f56, sl_25, ar_25, ty_5, zc_5, bytI, rowsI, lstC_row, maxLen])
    | ((fail_if_success (with_reducible show AW _ _ _ _)); simp (disch := omega) only [seaWrap, seaDiv, seaMod])
    | ((with_reducible refine hK _ ?_); clear hK K)
    | (with_reducible apply_assumption -exfalso only [*]))
  all_goals (obtain rfl : j = 64 := (by omega); first | rfl | exact fun _ => rfl)

theorem sector_0 (n : Nat) (f : Nat → Int) (hn : n ≤ 9223372036854775807) (hk : 64 ≤ n) : CallsN Try.prog 56 [.one (.iv (.lst 1 n (bytI f))), .one (.iv (.g (.int .i64 0)))] (rowV (bV f) 64) (fun i => .t (.one (.slc i 0 64 1))) := by
  have h := sector_n n f 0 hn (by omega)
  rw [show (fun j => f (0 * 64 + j)) = f from funext fun j => by rw [Nat.zero_mul, Nat.zero_add]] at h
  exact h

end Go.Proofs.Ytifoncmlelinjaa
