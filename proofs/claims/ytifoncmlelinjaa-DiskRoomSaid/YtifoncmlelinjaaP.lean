/- P: walks on abstract states. -/
import Derived.Test.YtifoncmlelinjaaO
import Derived.Test.YtifoncmlelinjaaSeaZA
set_option linter.unusedVariables false
set_option linter.unusedSimpArgs false
namespace Go.Proofs.Ytifoncmlelinjaa
open Go.RowKit Go.Sea
attribute [local go_sem] callK_N gf gk gdrop lkL setL lsF ltAll rdyL bodyF roundQ roundS loopQ loopS jumpOf inLs yV yA bAV zipPut purgeG_nil purgeG_cons List.tail_cons Option.isNone_none Option.isNone_some callGK_f callDK_f callDGK_f retN retHN blockA arun_nil arun_plain arun_guard plainF guardF guardB arunD_nil arunD_plain arunD_guard plainDF guardDF guardDB AS.ent Eff.noApp Eff.tgt ftF AV.refs TV.refs CV.refs LV.refs Op.operands Call.operands List.append_toArray List.push_toArray List.flatMap_cons List.flatMap_nil List.toList_toArray Option.toArray nidF nidA List.reverse_cons List.reverse_nil opF AS.ev constA lk AS.get AV.tv AV.nd AS.eff AS.put argEnv PT.tv PV.av AV.mbOf hset hget TV.cells dstOk thenA gB isB toB TV.bool? TV.int? intF loadF storeF fieldF indexF lenF sliceF optI appF minmaxF ipCells fillF partsF lvsF TV.lv LV.tv purgeE purgeC purgeH AV.purge CV.purge AV.has TV.has CV.has LV.has calleeF argsF tvsF toPT toIV toIVs toPTs toPV iA bA List.map_cons List.map_nil List.length_nil List.length_cons List.getElem?_cons_zero List.getElem?_cons_succ List.getElem?_nil Option.getD_some Option.getD_none Option.bind_some Option.bind_none List.take_succ_cons List.take_zero List.drop_succ_cons List.drop_zero List.take_nil List.drop_nil List.cons_append List.nil_append List.append_nil List.getD_cons_zero List.getD_cons_succ Option.map_some Option.map_none Option.isSome_some Option.isSome_none List.size_toArray List.any_cons List.any_nil List.mem_cons if_true if_false ite_true ite_false cond_true cond_false Nat.zero_add Nat.add_zero Nat.sub_zero Nat.le_refl Nat.zero_mul Nat.mul_zero Nat.one_mul Nat.mul_one Int.toNat_zero Int.toNat_natCast Bool.or_false Bool.false_or Bool.or_true Bool.true_or Bool.and_true Bool.true_and Bool.and_false Bool.false_and beq_self_eq_true beq_true beq_false Bool.not_true Bool.not_false and_true true_and and_false false_and and_self imp_self Bool.cond_false_right Bool.cond_true_left implies_true forall_const true_implies false_implies Option.some.injEq Prod.mk.injEq ne_eq not_false_eq_true not_true_eq_false eq_self Nat.lt_irrefl Nat.not_lt_zero op2F ncF slice3F offF slArrF copyF clearF toArrF callDK_t calleeT eqN barOp boF seaMin seaMax seaNat1 seaNat2 Value.bool.injEq Value.int.injEq srcF TV.dp IV.eqv PT.eqv PV.eqv All2 keepE hupd callZ_N AS.frz AS.frzW frzs frzsOk frzOk frzE frzA frzT frzC frzG frzH hdel cmpS eqF eqC gvs eqVs eqV decide_true resF tupA inlQ okL okGL okG nextL nextF barOpN AS.mv mvE mvG_nil mvG_cons mvH mvO AV.mv TV.mv CV.mv LV.mv famL_mv famL_purge famL_snoc famL_zero wkH wkC wkV nilA nilC AV.ok TV.ok CV.ok LV.ok okB forall_eq_or_imp forall_eq List.not_mem_nil List.mem_singleton true_or or_true or_false false_or or_self exists_prop AV.t.injEq TV.one.injEq CV.iv.injEq IV.g.injEq TV.agg.injEq List.cons.injEq repC_0 repC_1 repC_2 repC_3 rowV_len rowV_pur rowV_has rowV_frz frzC isIv_iv civ_iv rowV_all List.map_append retON AV.to TV.to CV.to
theorem fnok_55 : fnOk Try.prog 55 = true := by kernel_rfl
theorem fo_86 : fieldsOk Try.prog 86 = true := by kernel_rfl
theorem pl_86_0 : placeF Try.prog 86 0 = some (0, 1) := by kernel_rfl
theorem pl_86_1 : placeF Try.prog 86 1 = some (1, 1) := by kernel_rfl
theorem zc_86 : zeroC Try.prog 86 = some [.iv (.g (.int .i64 0)), .iv (.g (.slice none 0 0))] := by kernel_rfl

/-- The cells of a list of writes. -/
def wrC (S : Nat → Nat) (W : Nat → Nat → Int) (p : Nat) : IV := if p % 2 = 0 then .g (.int .i64 (S (p / 2) : Int)) else .lst 1 64 (bytI (W (p / 2)))
theorem wrC_0 (S : Nat → Nat) (W : Nat → Nat → Int) (q : Nat) : wrC S W (q * 2) = .g (.int .i64 (S q : Int)) := by
  unfold wrC; rw [if_pos (by omega), show q * 2 / 2 = q by omega]
theorem wrC_1 (S : Nat → Nat) (W : Nat → Nat → Int) (q : Nat) : wrC S W (q * 2 + 1) = .lst 1 64 (bytI (W q)) := by
  unfold wrC; rw [if_neg (by omega), show (q * 2 + 1) / 2 = q by omega]
theorem wr_snoc {ok : Nat → Prop} {S : Nat → Nat} {W : Nat → Nat → Int} {q : Nat} {c d : IV} (hc : c.eqv (.g (.int .i64 (S q : Int)))) (hd : d.eqv (.lst 1 64 (bytI (W q)))) : wkC ok (rowV (wrC S W) (q * 2) ++ [.iv c, .iv d]) (rowV (wrC S W) ((q + 1) * 2)) := by
  have h := wkC_row (ok := ok) (f := fun j => if j < q * 2 + 1 then (if j < q * 2 then wrC S W j else c) else d) (g := wrC S W) (q * 2 + 1 + 1) fun j hj => by
    by_cases h1 : j < q * 2 + 1
    · rw [if_pos h1]
      by_cases h2 : j < q * 2
      · rw [if_pos h2]; exact IV.eqv_refl _
      · obtain rfl : j = q * 2 := by omega
        rw [if_neg h2, wrC_0]; exact hc
    · obtain rfl : j = q * 2 + 1 := by omega
      rw [if_neg h1, wrC_1]; exact hd
  rw [← rowV_app1, ← rowV_app1, List.append_assoc] at h
  rw [show (q + 1) * 2 = q * 2 + 1 + 1 by omega]
  exact h
theorem wrC_row {S : Nat → Nat} {W : Nat → Nat → Int} {i o : Nat} (ho : o < 2) : wrC S W (i * 2 + o) = wrI S W i o := by
  rcases (by omega : o = 0 ∨ o = 1) with rfl | rfl
  · rw [Nat.add_zero, wrC_0]; rfl
  · rw [wrC_1]; rfl
theorem own_eqv (b : Nat → Int) (L : Nat) : PT.eqv (.one (.lst 1 L fun j o => civ ((rowV (bV b) L).getD (j + o) .any))) (.one (.lst 1 L (bytI b))) :=
  ⟨rfl, rfl, fun i o hi ho => rowV_eqv' (F := bytI b) (fun j hj => IV.eqv_refl _) i o hi ho⟩
def apS (s e Q i : Nat) : Nat := if i < Q then s + (e / 64 + i) else s + e / 64
def apW (b : Nat → Int) (e r : Nat) (R : Nat → Int) (Q i j : Nat) : Int := if i < Q then ap1 b e r R ((e / 64 + i) * 64 + j) else ap2 b e r R (e / 64 * 64 + j)
/-- The bytes with i bytes of a record's form behind the end, but for the first one. -/
def apK (b : Nat → Int) (e r : Nat) (R : Nat → Int) (i p : Nat) : Int := if e < p ∧ p < e + i then formF r R (p - e) else b p

theorem ownArg1 {P : Program} {k : FuncId} {L : Nat} {b : Nat → Int} {r : PV} (hc : CallsP P k [.one (.lst 1 L (bytI b))] r) {H : List (Option (List CV))} (j : Nat) (hj : hget H j = some (rowV (bV b) L)) : CallsH P k [.one (.slc j 0 L 1)] H r.fl H := by
  have ht : toPTs (hget H) [.one (.slc j 0 L 1)] = some ((0 + L * 1 ≤ (rowV (bV b) L).length ∧ ∀ c, c ∈ rowV (bV b) L → isIv c) ∧ True, [.one (.lst 1 L fun p o => civ ((rowV (bV b) L).getD (0 + p * 1 + o) .any))], true) := by
    simp only [toPTs, toPT, toIV, hj, Bool.or_false]
  refine CallsP.own hc ht ⟨⟨rfl, rfl, fun i o hi ho => ?_⟩, trivial⟩ ⟨⟨by rw [rowV_len]; omega, rowV_iv _ _⟩, trivial⟩
  show (civ ((rowV (bV b) L).getD (0 + i * 1 + o) .any)).eqv _
  rw [Nat.zero_add]
  exact rowV_eqv (F := bytI b) (fun j hj => IV.eqv_refl _) i o hi ho
theorem ownArg2 {P : Program} {k : FuncId} {L : Nat} {b : Nat → Int} {v : Value} {f : Nat → Int} {off m q E : Nat} (hc : CallsO P k [.one (.lst 1 L (bytI b)), .one (.g v)] (rowV (bV f) q) off m E) {H : List (Option (List CV))} (j i : Nat) (hj : hget H j = some (rowV (bV b) L)) (hi : hget H i = none) : CallsH P k [.one (.slc j 0 L 1), .one (.iv (.g v))] H (.t (.one (.slc i off m E))) (hset H i (rowV (bV f) q)) := by
  have ht : toPTs (hget H) [.one (.slc j 0 L 1), .one (.iv (.g v))] = some ((0 + L * 1 ≤ (rowV (bV b) L).length ∧ ∀ c, c ∈ rowV (bV b) L → isIv c) ∧ True ∧ True, [.one (.lst 1 L fun p o => civ ((rowV (bV b) L).getD (0 + p * 1 + o) .any)), .one (.g v)], true) := by
    simp only [toPTs, toPT, toIV, hj, Bool.or_false]
  refine hc.h i hi ht ⟨⟨rfl, rfl, fun i o hi ho => ?_⟩, rfl, trivial⟩ ⟨⟨by rw [rowV_len]; omega, rowV_iv _ _⟩, trivial, trivial⟩ fun c hc => by obtain ⟨j, hj, rfl⟩ := List.mem_map.1 hc; exact ⟨_, rfl⟩
  show (civ ((rowV (bV b) L).getD (0 + i * 1 + o) .any)).eqv _
  rw [Nat.zero_add]
  exact rowV_eqv (F := bytI b) (fun j hj => IV.eqv_refl _) i o hi ho

set_option maxRecDepth 100000 in
set_option maxHeartbeats 4000000 in
theorem sector_o (n : Nat) (f : Nat → Int) (k : Nat) (hn : n ≤ 9223372036854775807) (hk : (k + 1) * 64 ≤ n) : CallsO Try.prog 56 [.one (.lst 1 (n) (bytI (f))), .one (.g (.int .i64 ((k : Int))))] (rowV (bV fun j => f (k * 64 + j)) 64) (0) (64) 1 := by
  refine CallsO_of 0 Try.func56 rfl (by rw [Try.ntmps56]; simp) (fun c hc => by obtain ⟨j, hj, rfl⟩ := List.mem_map.1 hc; exact ⟨_, rfl⟩) (by intro h; have := congrArg List.length h; simp [rowV] at this) ?_
  simp only [Try.ntmps56, List.map_cons, List.map_nil, PT.tv, argEnv, Nat.zero_add, Nat.reduceAdd]
  repeat' (first
    | (with_reducible refine AW_seq_k fun K hK => ?_)
    | ((first | (with_reducible refine And.intro ?_ ?_) | (with_reducible refine Need.mk ?_)); focus (first | exact True.intro | (with_reducible assumption) | omega | (refine ⟨?_, ?_⟩ <;> omega) | (intro _; first | exact True.intro | (with_reducible assumption) | omega) | (intros; (repeat' (first | exact True.intro | omega | (with_reducible assumption) | (with_reducible refine And.intro ?_ ?_))); done) | (simp (disch := omega) only [Bool.and_eq_true, Bool.or_eq_true, decide_eq_true_eq, bne_iff_ne, ne_eq] at *; first | done | omega | (intros; omega)) | (simp; done) | (simp; omega) | (simp +contextual; done) | (intro h; rw [h]; rfl) | (intros; simp_all; done)))
    | (with_reducible refine AW_skip ?_)
    | (with_reducible refine AW_exit ?_)
    | (with_reducible refine AW_ret ?_)
    | (with_reducible refine retK_n ?_)
    | (with_reducible refine retK_n' ?_)
    | (with_reducible refine retH_n rfl rfl rfl ?_)
    | (with_reducible refine retH_n' rfl rfl rfl ?_)
    | (with_reducible refine retO_n ?_ ?_)
    | (with_reducible refine retO_n' ?_ ?_)
    | (with_reducible refine AW_condI ?_)
    | (with_reducible refine AW_block ?_)
    | ((with_reducible refine condN_t ?_ ?_) <;> (intro hc; (try simp only [Bool.and_eq_true, Bool.or_eq_true, Bool.not_eq_true', Bool.and_eq_false_iff, Bool.or_eq_false_iff, decide_eq_true_eq, decide_eq_false_iff_not, bne_iff_ne, beq_iff_eq, reduceCtorEq, bne_eq_false_iff_eq, beq_eq_false_iff_ne, Bool.not_eq_false', Int.not_le, Int.not_lt, Bool.not_not] at hc); (skip); (try (exfalso; first | contradiction | omega))))
    | (with_reducible refine AW_regionP 0 [0, 1] ?_)
    | (with_reducible refine AW_regionP 1 [0, 1] ?_)
    | (with_reducible refine AW_regionP 2 [0, 1, 5] ?_)
    | (with_reducible refine AW_regionP 3 [0, 1, 5, 6] ?_)
    | (with_reducible refine AW_regionP 4 [0, 1, 5, 6] ?_)
    | (with_reducible refine AW_regionP 5 [0, 1, 5, 6] ?_)
    | (with_reducible refine AW_regionP 6 [5] ?_)
    | ((with_reducible refine AW_loopQ (c := (Code.seq (Code.seq (Code.region 3 _ _) _) _)) (ι := Nat) [0, 1] (fun j => [(5, .t (.one (.slc 0 0 j 1))), (6, iA .i64 ((k * 64 + j : Nat) : Int))]) (fun j => [(0, rowV (bV fun j => f (k * 64 + j)) j)]) (fun j => j ≤ 64) (fun j => 64 - j) 0 ?lg3 ?l13 ?l23 ?li3 ?lr3); (case' lg3 => rintro j _); (case' li3 => try (first | trivial | omega | (simp; done) | (simp; omega))); (case' lr3 => rintro j hj KR hR3; skip; simp only [keepE, hupd, hset, lk, if_true, if_false, Nat.reduceEqDiff, reduceIte, List.cons_append, List.nil_append, bytI, rowsI, lstC_row, maxLen]))
    | ((with_reducible refine hR3 _ (j + 1) ?_); (try clear hR3 KR))
    | ((with_reducible refine Told.mk ?_); simp only [go_sem, reduceIte, reduceCtorEq, Nat.reduceAdd, Nat.reduceLT, Nat.reduceLeDiff, Nat.reduceEqDiff, Nat.reduceMul, Nat.reduceSub, Nat.reduceBEq, bytI, rowsI, lstC_row, maxLen] <;> (first | exact True.intro | (((try simp (disch := omega) only [seaWrap, Int.natCast_add, Int.cast_ofNat_Int, and_true, true_and, and_self]); (repeat' (first | exact True.intro | omega | rfl | (with_reducible assumption) | (with_reducible refine And.intro ?_ ?_) | (exact all_succ (by assumption) (by assumption)) | (exact wkC_same _ _) | (exact wkC_row _ (fun j hj => rfl)) | (exact wkC_snoc' rfl) | (exact wkC_snoc (fun j hj => rfl) rfl))); done)) | (refine Stuck.out ?_)))
    | ((fail_if_success (with_reducible show AW _ _ _ _)); simp (maxSteps := 2000000) only [go_sem, reduceIte, reduceCtorEq, Nat.reduceAdd, Nat.reduceLT, Nat.reduceLeDiff, Nat.reduceEqDiff, Nat.reduceMul, Nat.reduceSub, Nat.reduceBEq, Try.f56, sl_25, ar_25, ty_5, zc_5, bytI, rowsI, lstC_row, maxLen])
    | ((fail_if_success (with_reducible show AW _ _ _ _)); simp (disch := omega) only [seaWrap, seaDiv, seaMod])
    | ((with_reducible refine hK _ ?_); clear hK K)
    | (with_reducible apply_assumption -exfalso only [*]))
  all_goals (obtain rfl : j = 64 := (by omega); first | rfl | exact fun _ => rfl)

set_option maxRecDepth 100000 in
set_option maxHeartbeats 4000000 in
theorem appends_no (n : Nat) (m : Nat → Nat) (D : Nat → Nat → Int) (hs : Szd n m) (hD : BytD D) (k : Nat) (hk1 : k ≤ 1) (hk : D 0 0 = (k : Int)) (r : Nat) (R : Nat → Int) (hr : r ≤ 65535) (hok : okP (halfF n D k) (hlf n * 64) = true) (hno : ¬ endP (halfF n D k) (hlf n * 64) + (r + 3) ≤ hlf n * 64) : CallsP Try.prog 42 [.agg [.lst 1 (n) (rowsI (m) (D))], .one (.lst 1 (r) (bytI (R)))] (.tup [.one (.g (.slice none 0 0)), .one (.g (.int .i64 (17)))]) := by
  have h3 := hs.h3
  have h64 := hs.h63
  have hl := hs.hlf
  have hm0 := hs.m 0 (by omega)
  have hm : ∀ i, i < n → m i ≤ 9223372036854775807 := fun i hi => by have := hs.m i hi; omega
  have hsz := hs.b
  have hd0 := hD 0 0
  have hd1 : ((k : Int) > 1) = False := eq_false (by omega)
  have hle := endP_le (halfF n D k) (hlf n * 64)
  have hef := endR_ok hok
  have hfl := firstN_le (n := n) hk1
  have hB := hD.half n k
  refine CallsP_of Try.func42 rfl (by rw [Try.ntmps42]; simp) ?_
  simp only [Try.ntmps42, List.map_cons, List.map_nil, PT.tv, argEnv, Nat.zero_add, Nat.reduceAdd]
  repeat' (first
    | (with_reducible refine AW_seq_k fun K hK => ?_)
    | ((first | (with_reducible refine And.intro ?_ ?_) | (with_reducible refine Need.mk ?_)); focus (first | exact True.intro | (with_reducible assumption) | omega | (refine ⟨?_, ?_⟩ <;> omega) | (intro _; first | exact True.intro | (with_reducible assumption) | omega) | (intros; (repeat' (first | exact True.intro | omega | (with_reducible assumption) | (with_reducible refine And.intro ?_ ?_))); done) | (simp (disch := omega) only [Bool.and_eq_true, Bool.or_eq_true, decide_eq_true_eq, bne_iff_ne, ne_eq] at *; first | done | omega | (intros; omega)) | (simp; done) | (simp; omega) | (simp +contextual; done) | (intro h; rw [h]; rfl) | (intros; simp_all; done)))
    | (with_reducible refine AW_skip ?_)
    | (with_reducible refine AW_exit ?_)
    | (with_reducible refine AW_ret ?_)
    | (with_reducible refine retK_n ?_)
    | (with_reducible refine retK_n' ?_)
    | (with_reducible refine retH_n rfl rfl rfl ?_)
    | (with_reducible refine retH_n' rfl rfl rfl ?_)
    | (with_reducible refine retO_n ?_ ?_)
    | (with_reducible refine retO_n' ?_ ?_)
    | (with_reducible refine AW_condI ?_)
    | (with_reducible refine AW_block ?_)
    | ((with_reducible refine condN_t ?_ ?_) <;> (intro hc; (try simp only [Bool.and_eq_true, Bool.or_eq_true, Bool.not_eq_true', Bool.and_eq_false_iff, Bool.or_eq_false_iff, decide_eq_true_eq, decide_eq_false_iff_not, bne_iff_ne, beq_iff_eq, reduceCtorEq, bne_eq_false_iff_eq, beq_eq_false_iff_ne, Bool.not_eq_false', Int.not_le, Int.not_lt, Bool.not_not] at hc); (skip); (try (exfalso; first | contradiction | omega))))
    | (with_reducible refine AW_regionP 0 [0, 1] ?_)
    | (with_reducible refine AW_regionP 1 [1, 2] ?_)
    | (with_reducible refine AW_regionP 2 [1, 2, 6] ?_)
    | (with_reducible refine AW_regionP 3 [1, 2, 6, 7] ?_)
    | (with_reducible refine AW_regionP 4 [1, 2, 6, 7, 9] ?_)
    | (with_reducible refine AW_regionP 5 [2, 6, 7, 9, 11] ?_)
    | (with_reducible refine AW_regionP 6 [] ?_)
    | (with_reducible refine AW_regionP 7 [2, 6, 7, 9, 11] ?_)
    | (with_reducible refine AW_regionP 8 [2, 6, 7, 9, 11, 12] ?_)
    | (with_reducible refine AW_regionP 9 [2, 6, 7, 9, 11, 12] ?_)
    | (with_reducible refine AW_regionP 10 [2, 6, 7, 9, 11, 12] ?_)
    | (with_reducible refine AW_regionP 11 [2, 6, 7, 9, 11] ?_)
    | (with_reducible refine AW_regionP 12 [2, 6, 7, 9, 13] ?_)
    | (with_reducible refine AW_regionP 13 [2, 6, 7, 9, 13] ?_)
    | (with_reducible refine AW_regionP 14 [2, 6, 7, 9, 13] ?_)
    | (with_reducible refine AW_regionP 15 [2, 6, 7, 9, 13] ?_)
    | (with_reducible refine AW_regionP 16 [2, 6, 7, 9, 13] ?_)
    | (with_reducible refine AW_regionP 17 [2, 6, 7, 9, 13, 14] ?_)
    | (with_reducible refine AW_regionP 18 [2, 6, 7, 9, 13, 14, 15] ?_)
    | (with_reducible refine AW_regionP 19 [2, 6, 7, 9, 13, 14, 15] ?_)
    | (with_reducible refine AW_regionP 20 [2, 6, 7, 9, 13, 14, 15] ?_)
    | (with_reducible refine AW_regionP 21 [2, 6, 7, 9, 14] ?_)
    | (with_reducible refine AW_regionP 22 [2, 6, 7, 9, 14] ?_)
    | (with_reducible refine AW_regionP 23 [2, 6, 7, 14, 16] ?_)
    | (refine callN_q (k := 55) fnok_55 (rform_p r R (by omega)) ?_ ?_)
    | (refine callN_q (k := 34) fnok_34 (first_p n m D k (by omega) (by omega) (by omega)) ?_ ?_)
    | (refine callN_hpq (k := 38) fnok_38 (half_n n m D hs k hk1 _ 1 rfl) ?_ ?_)
    | (refine callN_hpq (k := 37) fnok_37 (ownArg1 (rparse_p (hlf n * 64) (halfF n D k) (by omega) hB) 1 rfl) ?_ ?_)
    | ((fail_if_success (with_reducible show AW _ _ _ _)); simp (maxSteps := 2000000) only [go_sem, reduceIte, reduceCtorEq, Nat.reduceAdd, Nat.reduceLT, Nat.reduceLeDiff, Nat.reduceEqDiff, Nat.reduceMul, Nat.reduceSub, Nat.reduceBEq, Try.f42, of_24_0, ty_22, sl_22, ar_22, ty_25, sl_25, ar_25, ty_5, in_3, ty_24, fnok_38, fnok_37, fnok_55, le_25, fnok_34, fnok_56, zc_86, fo_86, pl_86_0, pl_86_1, sl_67, bytI, rowsI, hm0, hk, hef, toNat3, rowV_take, rowV_drop, rowV_zero, rowV_app, rowV_app1, Nat.zero_min, Nat.min_self, lstC_row, maxLen, PV.fl, PT.fl, IV.fl, flatI])
    | ((fail_if_success (with_reducible show AW _ _ _ _)); simp (disch := omega) only [seaWrap, seaDiv, seaMod])
    | ((with_reducible refine hK _ ?_); clear hK K))

end Go.Proofs.Ytifoncmlelinjaa
