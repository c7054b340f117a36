/- S: walks on abstract states. -/
import Derived.Test.YtifoncmlelinjaaR
set_option linter.unusedVariables false
set_option linter.unusedSimpArgs false
namespace Go.Proofs.Ytifoncmlelinjaa
open Go.RowKit Go.Sea
attribute [local go_sem] callK_N gf gk gdrop lkL setL lsF ltAll rdyL bodyF roundQ roundS loopQ loopS jumpOf inLs yV yA bAV zipPut purgeG_nil purgeG_cons List.tail_cons Option.isNone_none Option.isNone_some callGK_f callDK_f callDGK_f retN retHN blockA arun_nil arun_plain arun_guard plainF guardF guardB arunD_nil arunD_plain arunD_guard plainDF guardDF guardDB AS.ent Eff.noApp Eff.tgt ftF AV.refs TV.refs CV.refs LV.refs Op.operands Call.operands List.append_toArray List.push_toArray List.flatMap_cons List.flatMap_nil List.toList_toArray Option.toArray nidF nidA List.reverse_cons List.reverse_nil opF AS.ev constA lk AS.get AV.tv AV.nd AS.eff AS.put argEnv PT.tv PV.av AV.mbOf hset hget TV.cells dstOk thenA gB isB toB TV.bool? TV.int? intF loadF storeF fieldF indexF lenF sliceF optI appF minmaxF fillF partsF lvsF TV.lv LV.tv purgeE purgeC purgeH AV.purge CV.purge AV.has TV.has CV.has LV.has calleeF argsF tvsF toPT toIV toIVs toPTs toPV iA bA List.map_cons List.map_nil List.length_nil List.length_cons List.getElem?_cons_zero List.getElem?_cons_succ List.getElem?_nil Option.getD_some Option.getD_none Option.bind_some Option.bind_none List.take_succ_cons List.take_zero List.drop_succ_cons List.drop_zero List.take_nil List.drop_nil List.cons_append List.nil_append List.append_nil List.getD_cons_zero List.getD_cons_succ Option.map_some Option.map_none Option.isSome_some Option.isSome_none List.size_toArray List.any_cons List.any_nil List.mem_cons if_true if_false ite_true ite_false cond_true cond_false Nat.zero_add Nat.add_zero Nat.sub_zero Nat.le_refl Nat.zero_mul Nat.mul_zero Nat.one_mul Nat.mul_one Int.toNat_zero Int.toNat_natCast Bool.or_false Bool.false_or Bool.or_true Bool.true_or Bool.and_true Bool.true_and Bool.and_false Bool.false_and beq_self_eq_true beq_true beq_false Bool.not_true Bool.not_false and_true true_and and_false false_and and_self imp_self Bool.cond_false_right Bool.cond_true_left implies_true forall_const true_implies false_implies Option.some.injEq Prod.mk.injEq ne_eq not_false_eq_true not_true_eq_false eq_self Nat.lt_irrefl Nat.not_lt_zero op2F ncF slice3F offF slArrF copyF clearF toArrF callDK_t calleeT eqN barOp boF seaMin seaMax seaNat1 seaNat2 Value.bool.injEq Value.int.injEq srcF TV.dp IV.eqv PT.eqv PV.eqv All2 keepE hupd callZ_N AS.frz AS.frzW frzs frzsOk frzOk frzE frzA frzT frzC frzG frzH hdel cmpS eqF eqC gvs eqVs eqV decide_true resF tupA inlQ okL okGL okG nextL nextF barOpN AS.mv mvE mvG_nil mvG_cons mvH mvO AV.mv TV.mv CV.mv LV.mv famL_mv famL_purge famL_snoc famL_zero wkH wkC wkV nilA nilC AV.ok TV.ok CV.ok LV.ok okB forall_eq_or_imp forall_eq List.not_mem_nil List.mem_singleton true_or or_true or_false false_or or_self exists_prop AV.t.injEq TV.one.injEq CV.iv.injEq IV.g.injEq TV.agg.injEq List.cons.injEq repC_0 repC_1 repC_2 repC_3 rowV_len rowV_pur rowV_has rowV_frz frzC isIv_iv civ_iv rowV_all List.map_append retON AV.to TV.to CV.to
theorem fnok_21 : fnOk Try.prog 21 = true := by kernel_rfl
theorem fnok_32 : fnOk Try.prog 32 = true := by kernel_rfl
theorem fnok_41 : fnOk Try.prog 41 = true := by kernel_rfl
theorem fnok_42 : fnOk Try.prog 42 = true := by kernel_rfl
theorem fnok_43 : fnOk Try.prog 43 = true := by kernel_rfl
theorem fnok_51 : fnOk Try.prog 51 = true := by kernel_rfl

theorem dn_wr {D : Nat → Nat → Int} {S : Nat → Nat} {W : Nat → Nat → Int} {B : Nat → Int} {s p af : Nat} : ∀ q, (∀ i, i < q → S i = s + i ∧ ∀ j, j < 64 → W i j = B (p * 64 + i * 64 + j)) → ∀ a j, j < 64 → dn D S W af q a j = wrR D B s p af q a j
  | 0, _, a, j, _ => by unfold wrR; rw [if_neg (by omega)]; rfl
  | q + 1, h, a, j, hj => by
    obtain ⟨h1, h2⟩ := h q (by omega)
    have ih := dn_wr (D := D) (S := S) (W := W) (B := B) (s := s) (p := p) (af := af) q (fun i hi => h i (by omega)) a j hj
    simp only [dn]
    rw [ih, h1, h2 j hj]
    unfold wrR
    by_cases e : a = s + q ∧ q * 64 + j < af
    · rw [if_pos e, if_pos (by omega), show p * 64 + (a - s) * 64 + j = p * 64 + q * 64 + j by omega]
    · rw [if_neg e]
      by_cases e2 : s ≤ a ∧ a < s + q ∧ (a - s) * 64 + j < af
      · rw [if_pos e2, if_pos (by omega)]
      · rw [if_neg e2, if_neg (by omega)]
theorem dn_congr {D : Nat → Nat → Int} {S S' : Nat → Nat} {W W' : Nat → Nat → Int} {af : Nat} : ∀ q, (∀ i, i < q → S i = S' i ∧ W i = W' i) → ∀ a j, dn D S W af q a j = dn D S' W' af q a j
  | 0, _, a, j => rfl
  | q + 1, h, a, j => by
    simp only [dn]
    rw [(h q (by omega)).1, (h q (by omega)).2, dn_congr q (fun i hi => h i (by omega)) a j]
theorem dn_ap {D : Nat → Nat → Int} {b : Nat → Int} {s e r L : Nat} {R : Nat → Int} {af a j : Nat} (hj : j < 64) : dn D (apS s e (secsN e r L)) (apW b e r R (secsN e r L)) af (secsN e r L + 1) a j = apD D b s e r L R af a j := by
  unfold apD
  generalize secsN e r L = Q
  have h := dn_wr (D := D) (S := apS s e Q) (W := apW b e r R Q) (B := ap1 b e r R) (s := s + e / 64) (p := e / 64) (af := af) Q (fun i hi => by
    unfold apS apW
    rw [if_pos hi]
    refine ⟨by omega, fun j hj => ?_⟩
    simp only [if_pos hi]
    congr 1; omega) a j hj
  simp only [dn]
  rw [h]
  have hS : apS s e Q Q = s + e / 64 := by unfold apS; rw [if_neg (Nat.lt_irrefl _)]
  have hW : apW b e r R Q Q j = ap2 b e r R (e / 64 * 64 + j) := by unfold apW; rw [if_neg (Nat.lt_irrefl _)]
  rw [hS, hW]
  generalize wrR D (ap1 b e r R) (s + e / 64) (e / 64) af Q = X
  unfold wrR
  by_cases c : a = s + e / 64 ∧ Q * 64 + j < af
  · rw [if_pos c, if_pos (by omega)]
    congr 1; omega
  · rw [if_neg c, if_neg (by omega)]
theorem dn_cp {D : Nat → Nat → Int} {n n' : Nat} {m' : Nat → Nat} {D' : Nat → Nat → Int} {k af a j : Nat} (hk1 : k ≤ 1) (hk : D 0 0 = (k : Int)) (hj : j < 64) : dn D (cpS (firstN n (1 - k)) (hlf n)) (cpW m' D' n' D (1 - (k : Int)) (hlf n)) af (hlf n + 1) a j = cmpD n D n' m' D' af a j := by
  unfold cmpD
  rw [hk, show ((k : Int)).toNat = k by omega]
  generalize firstN n (1 - k) = s
  generalize hlf n = Q
  have h := dn_wr (D := D) (S := cpS s Q) (W := cpW m' D' n' D (1 - (k : Int)) Q) (B := cmpF m' D' n') (s := s) (p := 0) (af := af) Q (fun i hi => by
    unfold cpS cpW
    rw [if_pos hi]
    refine ⟨rfl, fun j hj => ?_⟩
    simp only [if_pos hi]
    congr 1; omega) a j hj
  simp only [dn]
  rw [h]
  have hS : cpS s Q Q = 0 := by unfold cpS; rw [if_neg (Nat.lt_irrefl _)]
  rw [hS, cpW_Q]
  generalize wrR D (cmpF m' D' n') s 0 af Q = X
  unfold wrR
  by_cases c : a = 0 ∧ Q * 64 + j < af
  · rw [if_pos c, if_pos (by omega)]
    congr 1; omega
  · rw [if_neg c, if_neg (by omega)]
theorem appends_fit (n : Nat) (m : Nat → Nat) (D : Nat → Nat → Int) (hs : Szd n m) (hD : BytD D) (k : Nat) (hk1 : k ≤ 1) (hk : D 0 0 = (k : Int)) (r : Nat) (R : Nat → Int) (hr : r ≤ 65535) (hok : okP (halfF n D k) (hlf n * 64) = true) (hfit : endP (halfF n D k) (hlf n * 64) + (r + 3) ≤ hlf n * 64) :
    CallsP Try.prog 42 [.agg [.lst 1 n (rowsI m D)], .one (.lst 1 r (bytI R))] (.tup [.one (.lst 2 (secsN (endP (halfF n D k) (hlf n * 64)) r (hlf n * 64) + 1) (wrI (apS (firstN n k) (endP (halfF n D k) (hlf n * 64)) (secsN (endP (halfF n D k) (hlf n * 64)) r (hlf n * 64))) (apW (halfF n D k) (endP (halfF n D k) (hlf n * 64)) r R (secsN (endP (halfF n D k) (hlf n * 64)) r (hlf n * 64))))), .one (.g (.int .i64 0))]) := by
  by_cases h : endP (halfF n D k) (hlf n * 64) + (r + 3) = hlf n * 64
  · exact appends_eq n m D hs hD k hk1 hk r R hr _ rfl _ rfl _ rfl hok h
  · exact appends_lt n m D hs hD k hk1 hk r R hr _ rfl _ rfl _ rfl hok (by omega)
def bI (n : Nat) (m : Nat → Nat) (D : Nat → Nat → Int) (m' : Nat → Nat) (i : Nat) : Bool := vB n m D && !anyB i (longB m')
theorem any_snoc (p : Nat → Bool) (i : Nat) : anyB (i + 1) p = (anyB i p || p i) := by
  unfold anyB
  refine Bool.eq_iff_iff.2 ?_
  simp only [Bool.or_eq_true, decide_eq_true_eq]
  constructor
  · rintro ⟨j, hj, h⟩
    by_cases e : j = i
    · exact Or.inr (e ▸ h)
    · exact Or.inl ⟨j, by omega, h⟩
  · rintro (⟨j, hj, h⟩ | h)
    · exact ⟨j, by omega, h⟩
    · exact ⟨i, by omega, h⟩
theorem bI_0 {n : Nat} {m : Nat → Nat} {D : Nat → Nat → Int} {m' : Nat → Nat} : vB n m D = bI n m D m' 0 := by
  unfold bI anyB
  rw [decide_eq_false (fun ⟨i, hi, _⟩ => by omega)]
  simp
theorem bI_s {n : Nat} {m : Nat → Nat} {D : Nat → Nat → Int} {m' : Nat → Nat} {i : Nat} : (bI n m D m' i && decide (m' i ≤ 65535)) = bI n m D m' (i + 1) := by
  unfold bI
  rw [any_snoc]
  unfold longB
  have e : decide (m' i ≤ 65535) = !decide (65535 < m' i) := by
    by_cases h : m' i ≤ 65535
    · rw [decide_eq_true h, decide_eq_false (by omega)]; rfl
    · rw [decide_eq_false h, decide_eq_true (by omega)]; rfl
  rw [e]
  cases vB n m D <;> cases anyB i (fun i => decide (65535 < m' i)) <;> cases decide (65535 < m' i) <;> rfl
theorem wr_all {D : Nat → Nat → Int} {B : Nat → Int} {s p q af af' a j : Nat} (h : q * 64 ≤ af) (h' : q * 64 ≤ af') (hj : j < 64) : wrR D B s p af q a j = wrR D B s p af' q a j := by
  unfold wrR
  by_cases e : s ≤ a ∧ a < s + q
  · rw [if_pos ⟨e.1, e.2, by omega⟩, if_pos ⟨e.1, e.2, by omega⟩]
  · rw [if_neg (fun h => e ⟨h.1, h.2.1⟩), if_neg (fun h => e ⟨h.1, h.2.1⟩)]
theorem wr_in {D D' : Nat → Nat → Int} {B : Nat → Int} {s p q af a j : Nat} (h : D a j = D' a j) : wrR D B s p af q a j = wrR D' B s p af q a j := by unfold wrR; rw [h]
theorem apH_all {n : Nat} {D : Nat → Nat → Int} {r : Nat} {R : Nat → Int} {a j : Nat} (hl : hlf n ≤ 31) (hj : j < 64) : apH n D r R 4480 a j = apH n D r R 1048576 a j := by
  have hsec : secsN (endP (hv n D) (hlf n * 64)) r (hlf n * 64) ≤ 32 := by unfold secsN lastN; omega
  unfold apH apD
  generalize secsN (endP (hv n D) (hlf n * 64)) r (hlf n * 64) = Q at *
  rw [wr_all (af' := 1048576 - Q * 64) (by omega) (by omega) hj]
  exact wr_in (wr_all (by omega) (by omega) hj)
theorem cmpD_all {n n' : Nat} {D : Nat → Nat → Int} {m' : Nat → Nat} {D' : Nat → Nat → Int} {a j : Nat} (hl : hlf n ≤ 31) (hj : j < 64) : cmpD n D n' m' D' 4480 a j = cmpD n D n' m' D' 1048576 a j := by
  unfold cmpD
  rw [wr_all (af' := 1048576 - hlf n * 64) (by omega) (by omega) hj]
  exact wr_in (wr_all (by omega) (by omega) hj)
theorem cut_all {n : Nat} {m : Nat → Nat} {D : Nat → Nat → Int} {r : Nat} : cutE n m D r 4480 = cutE n m D r 1048576 ∧ cutN n m D r 4480 = cutN n m D r 1048576 := by
  have e : cutE n m D r 4480 = cutE n m D r 1048576 := by
    have h : cutOk n m D r 4480 = cutOk n m D r 1048576 := by
      unfold cutOk
      refine congrArg _ (decide_eq_decide.2 ⟨fun h => ⟨h.1, by decide⟩, fun h => ⟨h.1, by decide⟩⟩)
    unfold cutE
    rw [h]
  refine ⟨e, ?_⟩
  unfold cutN; rw [e]
theorem cmp_all {n : Nat} {m : Nat → Nat} {D : Nat → Nat → Int} {n' : Nat} {m' : Nat → Nat} : cmpE n m D n' m' 4480 = cmpE n m D n' m' 1048576 ∧ cmpN n m D n' m' 4480 = cmpN n m D n' m' 1048576 := by
  have e : cmpE n m D n' m' 4480 = cmpE n m D n' m' 1048576 := by
    unfold cmpE cmpOk
    rfl
  refine ⟨e, ?_⟩
  unfold cmpN; rw [e]
theorem cutN_hlf {n : Nat} {m : Nat → Nat} {D : Nat → Nat → Int} {r : Nat} {af : Int} {i : Nat} (h : i < cutN n m D r af) : hlf n ≤ 31 := by
  unfold cutN cutE cutOk vB at h
  cases hs : sizedB n m with
  | false => rw [hs] at h; simp at h
  | true => exact (Szd.of hs).hlf.2.2
theorem cmpN_hlf {n : Nat} {m : Nat → Nat} {D : Nat → Nat → Int} {n' : Nat} {m' : Nat → Nat} {af : Int} {i : Nat} (h : i < cmpN n m D n' m' af) : hlf n ≤ 31 := by
  unfold cmpN cmpE cmpOk vB at h
  cases hs : sizedB n m with
  | false => rw [hs] at h; simp at h
  | true => exact (Szd.of hs).hlf.2.2

set_option maxRecDepth 100000 in
set_option maxHeartbeats 4000000 in
theorem rcut_bad (n : Nat) (m : Nat → Nat) (D : Nat → Nat → Int) (hn : n ≤ 9223372036854775807) (hm : ∀ i, i < n → m i ≤ 9223372036854775807) (hD : BytD D) (r : Nat) (R : Nat → Int) (hr : r ≤ 9223372036854775807) (af : Int) (haf : -9223372036854775808 ≤ af ∧ af ≤ 9223372036854775807) (hc : cutOk n m D r af = false) : CallsP Try.prog 21 [.agg [.lst 1 (n) (rowsI (m) (D))], .one (.lst 1 (r) (bytI (R))), .one (.g (.int .i64 (af)))] (.tup [.agg [.lst 1 (cutN n m D r af) (rowsI (c64) (apH n D r R af.toNat))], .one (.g (.int .i64 (cutE n m D r af)))]) := by
  have hcut := cut_no1 hc
  have hbad : vB n m D = true → r ≤ 65535 → ¬ 0 ≤ af := by
    intro h1 h2 h3
    unfold cutOk at hc
    rw [h1, decide_eq_true ⟨h2, h3⟩] at hc
    cases hc
  refine CallsP_of Try.func21 rfl (by rw [Try.ntmps21]; simp) ?_
  simp only [Try.ntmps21, List.map_cons, List.map_nil, PT.tv, argEnv, Nat.zero_add, Nat.reduceAdd]
  repeat' (first
    | (with_reducible refine AW_seq_k fun K hK => ?_)
    | ((first | (with_reducible refine And.intro ?_ ?_) | (with_reducible refine Need.mk ?_)); focus (first | exact True.intro | (with_reducible assumption) | omega | (refine ⟨?_, ?_⟩ <;> omega) | (intro _; first | exact True.intro | (with_reducible assumption) | omega) | (intros; (repeat' (first | exact True.intro | omega | (with_reducible assumption) | (with_reducible refine And.intro ?_ ?_))); done) | (simp (disch := omega) only [Bool.and_eq_true, Bool.or_eq_true, decide_eq_true_eq, bne_iff_ne, ne_eq] at *; first | done | omega | (intros; omega)) | (simp; done) | (simp; omega) | (simp +contextual; done) | (intro h; rw [h]; rfl) | (intros; simp_all; done)))
    | (with_reducible refine AW_skip ?_)
    | (with_reducible refine AW_exit ?_)
    | (with_reducible refine AW_ret ?_)
    | (with_reducible refine retK_n ?_)
    | (with_reducible refine retK_n' ?_)
    | (with_reducible refine retH_n rfl rfl rfl ?_)
    | (with_reducible refine retH_n' rfl rfl rfl ?_)
    | (with_reducible refine retO_n ?_ ?_)
    | (with_reducible refine retO_n' ?_ ?_)
    | (with_reducible refine AW_condI ?_)
    | (with_reducible refine AW_block ?_)
    | ((with_reducible refine condN_t ?_ ?_) <;> (intro hc; (try simp only [Bool.and_eq_true, Bool.or_eq_true, Bool.not_eq_true', Bool.and_eq_false_iff, Bool.or_eq_false_iff, decide_eq_true_eq, decide_eq_false_iff_not, bne_iff_ne, beq_iff_eq, reduceCtorEq, bne_eq_false_iff_eq, beq_eq_false_iff_ne, Bool.not_eq_false', Int.not_le, Int.not_lt, Bool.not_not] at hc); ((try (exfalso; exact hbad hc.1.1 (by omega) (by omega)))); (try (exfalso; first | contradiction | omega))))
    | (with_reducible refine AW_regionP 0 [0, 1, 2] ?_)
    | (with_reducible refine AW_regionP 1 [1, 2, 3, 6] ?_)
    | (with_reducible refine AW_regionP 2 [1, 2, 3, 6, 8] ?_)
    | (with_reducible refine AW_regionP 3 [1, 2, 3, 6, 8, 9] ?_)
    | (with_reducible refine AW_regionP 4 [6] ?_)
    | (with_reducible refine AW_regionP 5 [1, 2, 3, 6] ?_)
    | (with_reducible refine AW_regionP 6 [2, 3, 6, 10, 11] ?_)
    | (with_reducible refine AW_regionP 7 [6, 11] ?_)
    | (with_reducible refine AW_regionP 8 [2, 3, 6, 10] ?_)
    | (refine callN_q (k := 14) fnok_14 (rvalid_p n m D hn hm hD) ?_ ?_)
    | (refine callN_q (k := 41) fnok_41 (rrec_p r R hr) ?_ ?_)
    | ((fail_if_success (with_reducible show AW _ _ _ _)); simp (maxSteps := 2000000) only [go_sem, reduceIte, reduceCtorEq, Nat.reduceAdd, Nat.reduceLT, Nat.reduceLeDiff, Nat.reduceEqDiff, Nat.reduceMul, Nat.reduceSub, Nat.reduceBEq, Try.f21, zc_24, ty_24, fnok_14, fnok_41, fo_24, fnok_42, fnok_43, bytI, rowsI])
    | ((with_reducible refine hK _ ?_); clear hK K))
  all_goals (first | (simp only [hcut.1, hcut.2]; done) | (simp only [hcut.1, hcut.2]; first | exact ⟨rfl, rfl⟩ | exact ⟨⟨rfl, rfl⟩, rfl⟩ | exact ⟨trivial, trivial⟩ | rfl))

set_option maxRecDepth 100000 in
set_option maxHeartbeats 4000000 in
theorem rcut_no (n : Nat) (m : Nat → Nat) (D : Nat → Nat → Int) (hs : Szd n m) (hD : BytD D) (k : Nat) (hk1 : k ≤ 1) (hk : D 0 0 = (k : Int)) (r : Nat) (R : Nat → Int) (hr : r ≤ 9223372036854775807) (af : Int) (haf : -9223372036854775808 ≤ af ∧ af ≤ 9223372036854775807) (hok : okP (halfF n D k) (hlf n * 64) = true) (h6 : r ≤ 65535) (h0 : 0 ≤ af) (hno : ¬ endP (halfF n D k) (hlf n * 64) + (r + 3) ≤ hlf n * 64) : CallsP Try.prog 21 [.agg [.lst 1 (n) (rowsI (m) (D))], .one (.lst 1 (r) (bytI (R))), .one (.g (.int .i64 (af)))] (.tup [.agg [.lst 1 (cutN n m D r af) (rowsI (c64) (apH n D r R af.toNat))], .one (.g (.int .i64 (cutE n m D r af)))]) := by
  have h3 := hs.h3
  have h64 := hs.h63
  have hl := hs.hlf
  have hm0 := hs.m 0 (by omega)
  have hm : ∀ i, i < n → m i ≤ 9223372036854775807 := fun i hi => by have := hs.m i hi; omega
  have hsz := hs.b
  have hd0 := hD 0 0
  have hd1 : ((k : Int) > 1) = False := eq_false (by omega)
  have hv_ := vB_ok hs hk1 hk
  have hh_ := hv_k (n := n) hk
  have hle := endP_le (halfF n D k) (hlf n * 64)
  have haf0 : ((af.toNat : Nat) : Int) = af := by omega
  have hvt : vB n m D = true := hv_.trans hok
  have hrt : decide (r ≤ 65535) = true := decide_eq_true h6
  have hcut : cutE n m D r af = 17 ∧ cutN n m D r af = 0 := by
    have e : cutE n m D r af = 17 := by unfold cutE cutOk fitB; rw [hv_, hok, decide_eq_true ⟨h6, h0⟩, hh_, decide_eq_false hno]; rfl
    refine ⟨e, ?_⟩
    unfold cutN; rw [e]; rfl
  refine CallsP_of Try.func21 rfl (by rw [Try.ntmps21]; simp) ?_
  simp only [Try.ntmps21, List.map_cons, List.map_nil, PT.tv, argEnv, Nat.zero_add, Nat.reduceAdd]
  repeat' (first
    | (with_reducible refine AW_seq_k fun K hK => ?_)
    | ((first | (with_reducible refine And.intro ?_ ?_) | (with_reducible refine Need.mk ?_)); focus (first | exact True.intro | (with_reducible assumption) | omega | (refine ⟨?_, ?_⟩ <;> omega) | (intro _; first | exact True.intro | (with_reducible assumption) | omega) | (intros; (repeat' (first | exact True.intro | omega | (with_reducible assumption) | (with_reducible refine And.intro ?_ ?_))); done) | (simp (disch := omega) only [Bool.and_eq_true, Bool.or_eq_true, decide_eq_true_eq, bne_iff_ne, ne_eq] at *; first | done | omega | (intros; omega)) | (simp; done) | (simp; omega) | (simp +contextual; done) | (intro h; rw [h]; rfl) | (intros; simp_all; done)))
    | (with_reducible refine AW_skip ?_)
    | (with_reducible refine AW_exit ?_)
    | (with_reducible refine AW_ret ?_)
    | (with_reducible refine retK_n ?_)
    | (with_reducible refine retK_n' ?_)
    | (with_reducible refine retH_n rfl rfl rfl ?_)
    | (with_reducible refine retH_n' rfl rfl rfl ?_)
    | (with_reducible refine retO_n ?_ ?_)
    | (with_reducible refine retO_n' ?_ ?_)
    | (with_reducible refine AW_condI ?_)
    | (with_reducible refine AW_block ?_)
    | ((with_reducible refine condN_t ?_ ?_) <;> (intro hc; (try simp only [Bool.and_eq_true, Bool.or_eq_true, Bool.not_eq_true', Bool.and_eq_false_iff, Bool.or_eq_false_iff, decide_eq_true_eq, decide_eq_false_iff_not, bne_iff_ne, beq_iff_eq, reduceCtorEq, bne_eq_false_iff_eq, beq_eq_false_iff_ne, Bool.not_eq_false', Int.not_le, Int.not_lt, Bool.not_not] at hc); (skip); (try (exfalso; first | contradiction | omega))))
    | (with_reducible refine AW_regionP 0 [0, 1, 2] ?_)
    | (with_reducible refine AW_regionP 1 [1, 2, 3, 6] ?_)
    | (with_reducible refine AW_regionP 2 [1, 2, 3, 6, 8] ?_)
    | (with_reducible refine AW_regionP 3 [1, 2, 3, 6, 8, 9] ?_)
    | (with_reducible refine AW_regionP 4 [6] ?_)
    | (with_reducible refine AW_regionP 5 [1, 2, 3, 6] ?_)
    | (with_reducible refine AW_regionP 6 [2, 3, 6, 10, 11] ?_)
    | (with_reducible refine AW_regionP 7 [6, 11] ?_)
    | (with_reducible refine AW_regionP 8 [2, 3, 6, 10] ?_)
    | (refine callN_q (k := 14) fnok_14 (rvalid_p n m D (by omega) hm hD) ?_ ?_)
    | (refine callN_q (k := 41) fnok_41 (rrec_p r R hr) ?_ ?_)
    | (refine callN_q (k := 42) fnok_42 (appends_no n m D hs hD k hk1 hk r R h6 hok hno) ?_ ?_)
    | ((fail_if_success (with_reducible show AW _ _ _ _)); simp (maxSteps := 2000000) only [go_sem, reduceIte, reduceCtorEq, Nat.reduceAdd, Nat.reduceLT, Nat.reduceLeDiff, Nat.reduceEqDiff, Nat.reduceMul, Nat.reduceSub, Nat.reduceBEq, Try.f21, zc_24, ty_24, fnok_14, fnok_41, fo_24, fnok_42, fnok_43, bytI, rowsI, hvt, hrt])
    | ((with_reducible refine hK _ ?_); clear hK K))
  all_goals (first | (simp only [hcut.1, hcut.2]; done) | (simp only [hcut.1, hcut.2]; first | exact ⟨rfl, rfl⟩ | exact ⟨⟨rfl, rfl⟩, rfl⟩ | exact ⟨trivial, trivial⟩ | rfl))

set_option maxRecDepth 100000 in
set_option maxHeartbeats 4000000 in
theorem rcut_fit (n : Nat) (m : Nat → Nat) (D : Nat → Nat → Int) (hs : Szd n m) (hD : BytD D) (k : Nat) (hk1 : k ≤ 1) (hk : D 0 0 = (k : Int)) (r : Nat) (R : Nat → Int) (hr : r ≤ 9223372036854775807) (af : Int) (haf : -9223372036854775808 ≤ af ∧ af ≤ 9223372036854775807) (hok : okP (halfF n D k) (hlf n * 64) = true) (h6 : r ≤ 65535) (h0 : 0 ≤ af) (hfit : endP (halfF n D k) (hlf n * 64) + (r + 3) ≤ hlf n * 64) : CallsP Try.prog 21 [.agg [.lst 1 (n) (rowsI (m) (D))], .one (.lst 1 (r) (bytI (R))), .one (.g (.int .i64 (af)))] (.tup [.agg [.lst 1 (cutN n m D r af) (rowsI (c64) (apH n D r R af.toNat))], .one (.g (.int .i64 (cutE n m D r af)))]) := by
  have h3 := hs.h3
  have h64 := hs.h63
  have hl := hs.hlf
  have hm0 := hs.m 0 (by omega)
  have hm : ∀ i, i < n → m i ≤ 9223372036854775807 := fun i hi => by have := hs.m i hi; omega
  have hsz := hs.b
  have hd0 := hD 0 0
  have hd1 : ((k : Int) > 1) = False := eq_false (by omega)
  have hv_ := vB_ok hs hk1 hk
  have hh_ := hv_k (n := n) hk
  have hle := endP_le (halfF n D k) (hlf n * 64)
  have haf0 : ((af.toNat : Nat) : Int) = af := by omega
  have hvt : vB n m D = true := hv_.trans hok
  have hrt : decide (r ≤ 65535) = true := decide_eq_true h6
  have hap : apH n D r R af.toNat = apD D (halfF n D k) (firstN n k) (endP (halfF n D k) (hlf n * 64)) r (hlf n * 64) R af.toNat := by unfold apH; rw [hh_, hk, Int.toNat_natCast]
  have hcut : cutE n m D r af = 0 ∧ cutN n m D r af = n := by
    have e : cutE n m D r af = 0 := by unfold cutE cutOk fitB; rw [hv_, hok, decide_eq_true ⟨h6, h0⟩, hh_, decide_eq_true hfit]; rfl
    refine ⟨e, ?_⟩
    unfold cutN; rw [e]; rfl
  have hfl := firstN_le (n := n) hk1
  have hsec : (secsN (endP (halfF n D k) (hlf n * 64)) r (hlf n * 64)) ≤ 31 := by unfold secsN lastN; omega
  refine CallsP_of Try.func21 rfl (by rw [Try.ntmps21]; simp) ?_
  simp only [Try.ntmps21, List.map_cons, List.map_nil, PT.tv, argEnv, Nat.zero_add, Nat.reduceAdd]
  repeat' (first
    | (with_reducible refine AW_seq_k fun K hK => ?_)
    | ((first | (with_reducible refine And.intro ?_ ?_) | (with_reducible refine Need.mk ?_)); focus (first | exact True.intro | (with_reducible assumption) | omega | (refine ⟨?_, ?_⟩ <;> omega) | (intro _; first | exact True.intro | (with_reducible assumption) | omega) | (intros; (repeat' (first | exact True.intro | omega | (with_reducible assumption) | (with_reducible refine And.intro ?_ ?_))); done) | (simp (disch := omega) only [Bool.and_eq_true, Bool.or_eq_true, decide_eq_true_eq, bne_iff_ne, ne_eq] at *; first | done | omega | (intros; omega)) | (simp; done) | (simp; omega) | (simp +contextual; done) | (intro h; rw [h]; rfl) | (intros; simp_all; done)))
    | (with_reducible refine AW_skip ?_)
    | (with_reducible refine AW_exit ?_)
    | (with_reducible refine AW_ret ?_)
    | (with_reducible refine retK_n ?_)
    | (with_reducible refine retK_n' ?_)
    | (with_reducible refine retH_n rfl rfl rfl ?_)
    | (with_reducible refine retH_n' rfl rfl rfl ?_)
    | (with_reducible refine retO_n ?_ ?_)
    | (with_reducible refine retO_n' ?_ ?_)
    | (with_reducible refine AW_condI ?_)
    | (with_reducible refine AW_block ?_)
    | ((with_reducible refine condN_t ?_ ?_) <;> (intro hc; (try simp only [Bool.and_eq_true, Bool.or_eq_true, Bool.not_eq_true', Bool.and_eq_false_iff, Bool.or_eq_false_iff, decide_eq_true_eq, decide_eq_false_iff_not, bne_iff_ne, beq_iff_eq, reduceCtorEq, bne_eq_false_iff_eq, beq_eq_false_iff_ne, Bool.not_eq_false', Int.not_le, Int.not_lt, Bool.not_not] at hc); (skip); (try (exfalso; first | contradiction | omega))))
    | (with_reducible refine AW_regionP 0 [0, 1, 2] ?_)
    | (with_reducible refine AW_regionP 1 [1, 2, 3, 6] ?_)
    | (with_reducible refine AW_regionP 2 [1, 2, 3, 6, 8] ?_)
    | (with_reducible refine AW_regionP 3 [1, 2, 3, 6, 8, 9] ?_)
    | (with_reducible refine AW_regionP 4 [6] ?_)
    | (with_reducible refine AW_regionP 5 [1, 2, 3, 6] ?_)
    | (with_reducible refine AW_regionP 6 [2, 3, 6, 10, 11] ?_)
    | (with_reducible refine AW_regionP 7 [6, 11] ?_)
    | (with_reducible refine AW_regionP 8 [2, 3, 6, 10] ?_)
    | (refine callN_q (k := 14) fnok_14 (rvalid_p n m D (by omega) hm hD) ?_ ?_)
    | (refine callN_q (k := 41) fnok_41 (rrec_p r R hr) ?_ ?_)
    | (refine callN_q (k := 42) fnok_42 (appends_fit n m D hs hD k hk1 hk r R h6 hok hfit) ?_ ?_)
    | (refine callN_q (k := 43) fnok_43 ((by have h := done_p n m D hs.h63 hs.m ((secsN (endP (halfF n D k) (hlf n * 64)) r (hlf n * 64)) + 1) (apS (firstN n k) (endP (halfF n D k) (hlf n * 64)) (secsN (endP (halfF n D k) (hlf n * 64)) r (hlf n * 64))) (apW (halfF n D k) (endP (halfF n D k) (hlf n * 64)) r R (secsN (endP (halfF n D k) (hlf n * 64)) r (hlf n * 64))) (by omega) (fun i hi => by unfold apS; unfold secsN lastN at hi ⊢; split <;> omega) af.toNat (by omega); rw [haf0] at h; exact h)) ?_ ?_)
    | ((fail_if_success (with_reducible show AW _ _ _ _)); simp (maxSteps := 2000000) only [go_sem, reduceIte, reduceCtorEq, Nat.reduceAdd, Nat.reduceLT, Nat.reduceLeDiff, Nat.reduceEqDiff, Nat.reduceMul, Nat.reduceSub, Nat.reduceBEq, Try.f21, zc_24, ty_24, fnok_14, fnok_41, fo_24, fnok_42, fnok_43, bytI, rowsI, hvt, hrt])
    | ((with_reducible refine hK _ ?_); clear hK K))
  all_goals (simp only [hcut.1, hcut.2]; first | exact ⟨⟨trivial, fun i o hi ho i1 o1 hi1 ho1 => by rw [hap]; exact dn_ap hi1⟩, trivial⟩ | exact ⟨⟨trivial, fun i o hi ho => ⟨rfl, rfl, fun i1 o1 hi1 ho1 => u8_eqv (by rw [hap]; exact dn_ap hi1)⟩⟩, trivial⟩)

theorem rcut_p (n : Nat) (m : Nat → Nat) (D : Nat → Nat → Int) (hn : n ≤ 9223372036854775807) (hm : ∀ i, i < n → m i ≤ 9223372036854775807) (hD : BytD D) (r : Nat) (R : Nat → Int) (hr : r ≤ 9223372036854775807) (af : Int) (haf : -9223372036854775808 ≤ af ∧ af ≤ 9223372036854775807) : CallsP Try.prog 21 [.agg [.lst 1 (n) (rowsI (m) (D))], .one (.lst 1 (r) (bytI (R))), .one (.g (.int .i64 (af)))] (.tup [.agg [.lst 1 (cutN n m D r af) (rowsI (c64) (apH n D r R af.toNat))], .one (.g (.int .i64 (cutE n m D r af)))]) := by
  cases hc : cutOk n m D r af with
  | false => exact rcut_bad n m D hn hm hD r R hr af haf hc
  | true =>
    have h1 := hc
    unfold cutOk at h1
    rw [Bool.and_eq_true, decide_eq_true_eq] at h1
    rcases disk_cases n m D hD with hs | ⟨hs, hd⟩ | ⟨k, hs, hk1, hk⟩
    · rw [vB_no1 hs] at h1; cases h1.1
    · rw [vB_no2 hd] at h1; cases h1.1
    · rw [vB_ok hs hk1 hk] at h1
      by_cases hf : endP (halfF n D k) (hlf n * 64) + (r + 3) ≤ hlf n * 64
      · exact rcut_fit n m D hs hD k hk1 hk r R hr af haf h1.1 h1.2.1 h1.2.2 hf
      · exact rcut_no n m D hs hD k hk1 hk r R hr af haf h1.1 h1.2.1 h1.2.2 hf

set_option maxRecDepth 100000 in
set_option maxHeartbeats 4000000 in
theorem rappend_0 (n : Nat) (m : Nat → Nat) (D : Nat → Nat → Int) (hn : n ≤ 9223372036854775807) (hm : ∀ i, i < n → m i ≤ 9223372036854775807) (hD : BytD D) (r : Nat) (R : Nat → Int) (hr : r ≤ 9223372036854775807) : CallsP Try.prog 19 [.agg [.lst 1 (n) (rowsI (m) (D))], .one (.lst 1 (r) (bytI (R)))] (.tup [.agg [.lst 1 (cutN n m D r 4480) (rowsI (c64) (apH n D r R 4480))], .one (.g (.int .i64 (cutE n m D r 4480)))]) := by
  refine CallsP_of Try.func19 rfl (by rw [Try.ntmps19]; simp) ?_
  simp only [Try.ntmps19, List.map_cons, List.map_nil, PT.tv, argEnv, Nat.zero_add, Nat.reduceAdd]
  repeat' (first
    | (with_reducible refine AW_seq_k fun K hK => ?_)
    | ((first | (with_reducible refine And.intro ?_ ?_) | (with_reducible refine Need.mk ?_)); focus (first | exact True.intro | (with_reducible assumption) | omega | (refine ⟨?_, ?_⟩ <;> omega) | (intro _; first | exact True.intro | (with_reducible assumption) | omega) | (intros; (repeat' (first | exact True.intro | omega | (with_reducible assumption) | (with_reducible refine And.intro ?_ ?_))); done) | (simp (disch := omega) only [Bool.and_eq_true, Bool.or_eq_true, decide_eq_true_eq, bne_iff_ne, ne_eq] at *; first | done | omega | (intros; omega)) | (simp; done) | (simp; omega) | (simp +contextual; done) | (intro h; rw [h]; rfl) | (intros; simp_all; done)))
    | (with_reducible refine AW_skip ?_)
    | (with_reducible refine AW_exit ?_)
    | (with_reducible refine AW_ret ?_)
    | (with_reducible refine retK_n ?_)
    | (with_reducible refine retK_n' ?_)
    | (with_reducible refine retH_n rfl rfl rfl ?_)
    | (with_reducible refine retH_n' rfl rfl rfl ?_)
    | (with_reducible refine retO_n ?_ ?_)
    | (with_reducible refine retO_n' ?_ ?_)
    | (with_reducible refine AW_condI ?_)
    | (with_reducible refine AW_block ?_)
    | ((with_reducible refine condN_t ?_ ?_) <;> (intro hc; (try simp only [Bool.and_eq_true, Bool.or_eq_true, Bool.not_eq_true', Bool.and_eq_false_iff, Bool.or_eq_false_iff, decide_eq_true_eq, decide_eq_false_iff_not, bne_iff_ne, beq_iff_eq, reduceCtorEq, bne_eq_false_iff_eq, beq_eq_false_iff_ne, Bool.not_eq_false', Int.not_le, Int.not_lt, Bool.not_not] at hc); (try (exfalso; first | contradiction | omega))))
    | (with_reducible refine AW_regionP 0 [0, 1] ?_)
    | (with_reducible refine AW_regionP 1 [1, 2, 4] ?_)
    | (refine callN_q (k := 21) fnok_21 (rcut_p n m D hn hm hD r R hr 4480 (by omega)) ?_ ?_)
    | ((fail_if_success (with_reducible show AW _ _ _ _)); simp (maxSteps := 2000000) only [go_sem, reduceIte, reduceCtorEq, Nat.reduceAdd, Nat.reduceLT, Nat.reduceLeDiff, Nat.reduceEqDiff, Nat.reduceMul, Nat.reduceSub, Nat.reduceBEq, Try.f19, zc_24, ty_24, fnok_21, bytI, rowsI])
    | ((with_reducible refine hK _ ?_); clear hK K))
  all_goals (intros; rfl)

theorem rappend_p (n : Nat) (m : Nat → Nat) (D : Nat → Nat → Int) (hn : n ≤ 9223372036854775807) (hm : ∀ i, i < n → m i ≤ 9223372036854775807) (hD : BytD D) (r : Nat) (R : Nat → Int) (hr : r ≤ 9223372036854775807) : CallsP Try.prog 19 [.agg [.lst 1 (n) (rowsI (m) (D))], .one (.lst 1 (r) (bytI (R)))] (.tup [.agg [.lst 1 (cutN n m D r 1048576) (rowsI (c64) (apH n D r R 1048576))], .one (.g (.int .i64 (cutE n m D r 1048576)))]) :=
  CallsP.eqv (rappend_0 n m D hn hm hD r R hr) ⟨PT.eqv_refl _, PT.eqv_refl _, trivial⟩ ⟨⟨⟨rfl, cut_all.2, fun i o hi ho => ⟨rfl, rfl, fun i1 o1 hi1 ho1 => u8_eqv (apH_all (cutN_hlf hi) hi1)⟩⟩, trivial⟩, i64_eqv cut_all.1, trivial⟩

set_option maxRecDepth 100000 in
set_option maxHeartbeats 4000000 in
theorem rcost_bad (n : Nat) (m : Nat → Nat) (D : Nat → Nat → Int) (hn : n ≤ 9223372036854775807) (hm : ∀ i, i < n → m i ≤ 9223372036854775807) (hD : BytD D) (r : Nat) (R : Nat → Int) (hr : r ≤ 9223372036854775807) (hc : cutOk n m D r 0 = false) : CallsP Try.prog 23 [.agg [.lst 1 (n) (rowsI (m) (D))], .one (.lst 1 (r) (bytI (R)))] (.tup [.one (.g (.int .i64 (costV n m D r))), .one (.g (.int .i64 (cutE n m D r 0)))]) := by
  have hcut := cost_no hc
  have hbad : vB n m D = true → ¬ r ≤ 65535 := by
    intro h1 h2
    unfold cutOk at hc
    rw [h1, decide_eq_true ⟨h2, Int.le_refl 0⟩] at hc
    cases hc
  refine CallsP_of Try.func23 rfl (by rw [Try.ntmps23]; simp) ?_
  simp only [Try.ntmps23, List.map_cons, List.map_nil, PT.tv, argEnv, Nat.zero_add, Nat.reduceAdd]
  repeat' (first
    | (with_reducible refine AW_seq_k fun K hK => ?_)
    | ((first | (with_reducible refine And.intro ?_ ?_) | (with_reducible refine Need.mk ?_)); focus (first | exact True.intro | (with_reducible assumption) | omega | (refine ⟨?_, ?_⟩ <;> omega) | (intro _; first | exact True.intro | (with_reducible assumption) | omega) | (intros; (repeat' (first | exact True.intro | omega | (with_reducible assumption) | (with_reducible refine And.intro ?_ ?_))); done) | (simp (disch := omega) only [Bool.and_eq_true, Bool.or_eq_true, decide_eq_true_eq, bne_iff_ne, ne_eq] at *; first | done | omega | (intros; omega)) | (simp; done) | (simp; omega) | (simp +contextual; done) | (intro h; rw [h]; rfl) | (intros; simp_all; done)))
    | (with_reducible refine AW_skip ?_)
    | (with_reducible refine AW_exit ?_)
    | (with_reducible refine AW_ret ?_)
    | (with_reducible refine retK_n ?_)
    | (with_reducible refine retK_n' ?_)
    | (with_reducible refine retH_n rfl rfl rfl ?_)
    | (with_reducible refine retH_n' rfl rfl rfl ?_)
    | (with_reducible refine retO_n ?_ ?_)
    | (with_reducible refine retO_n' ?_ ?_)
    | (with_reducible refine AW_condI ?_)
    | (with_reducible refine AW_block ?_)
    | ((with_reducible refine condN_t ?_ ?_) <;> (intro hc; (try simp only [Bool.and_eq_true, Bool.or_eq_true, Bool.not_eq_true', Bool.and_eq_false_iff, Bool.or_eq_false_iff, decide_eq_true_eq, decide_eq_false_iff_not, bne_iff_ne, beq_iff_eq, reduceCtorEq, bne_eq_false_iff_eq, beq_eq_false_iff_ne, Bool.not_eq_false', Int.not_le, Int.not_lt, Bool.not_not] at hc); ((try (exfalso; exact hbad hc.1 (by omega)))); (try (exfalso; first | contradiction | omega))))
    | (with_reducible refine AW_regionP 0 [0, 1] ?_)
    | (with_reducible refine AW_regionP 1 [1, 2] ?_)
    | (with_reducible refine AW_regionP 2 [1, 2, 6] ?_)
    | (with_reducible refine AW_regionP 3 [1, 2, 6, 7] ?_)
    | (with_reducible refine AW_regionP 4 [] ?_)
    | (with_reducible refine AW_regionP 5 [1, 2] ?_)
    | (with_reducible refine AW_regionP 6 [8, 9] ?_)
    | (refine callN_q (k := 14) fnok_14 (rvalid_p n m D hn hm hD) ?_ ?_)
    | (refine callN_q (k := 41) fnok_41 (rrec_p r R hr) ?_ ?_)
    | ((fail_if_success (with_reducible show AW _ _ _ _)); simp (maxSteps := 2000000) only [go_sem, reduceIte, reduceCtorEq, Nat.reduceAdd, Nat.reduceLT, Nat.reduceLeDiff, Nat.reduceEqDiff, Nat.reduceMul, Nat.reduceSub, Nat.reduceBEq, Try.f23, ty_24, fnok_14, fnok_41, fnok_42, le_67, bytI, rowsI])
    | ((fail_if_success (with_reducible show AW _ _ _ _)); simp (disch := omega) only [seaWrap, seaDiv, seaMod])
    | ((with_reducible refine hK _ ?_); clear hK K))
  all_goals (first | (simp only [hcut.1, hcut.2]; done) | (simp only [hcut.1, hcut.2]; first | exact ⟨rfl, rfl⟩ | exact ⟨⟨rfl, rfl⟩, rfl⟩ | exact ⟨trivial, trivial⟩ | rfl))

set_option maxRecDepth 100000 in
set_option maxHeartbeats 4000000 in
theorem rcost_nof (n : Nat) (m : Nat → Nat) (D : Nat → Nat → Int) (hs : Szd n m) (hD : BytD D) (k : Nat) (hk1 : k ≤ 1) (hk : D 0 0 = (k : Int)) (r : Nat) (R : Nat → Int) (hr : r ≤ 9223372036854775807) (hok : okP (halfF n D k) (hlf n * 64) = true) (h6 : r ≤ 65535) (hno : ¬ endP (halfF n D k) (hlf n * 64) + (r + 3) ≤ hlf n * 64) : CallsP Try.prog 23 [.agg [.lst 1 (n) (rowsI (m) (D))], .one (.lst 1 (r) (bytI (R)))] (.tup [.one (.g (.int .i64 (costV n m D r))), .one (.g (.int .i64 (cutE n m D r 0)))]) := by
  have h3 := hs.h3
  have h64 := hs.h63
  have hl := hs.hlf
  have hm0 := hs.m 0 (by omega)
  have hm : ∀ i, i < n → m i ≤ 9223372036854775807 := fun i hi => by have := hs.m i hi; omega
  have hsz := hs.b
  have hd0 := hD 0 0
  have hd1 : ((k : Int) > 1) = False := eq_false (by omega)
  have hv_ := vB_ok hs hk1 hk
  have hh_ := hv_k (n := n) hk
  have hle := endP_le (halfF n D k) (hlf n * 64)
  have hvt : vB n m D = true := hv_.trans hok
  have hrt : decide (r ≤ 65535) = true := decide_eq_true h6
  have hcut : cutE n m D r 0 = 17 ∧ costV n m D r = 0 := by
    have e : cutE n m D r 0 = 17 := by unfold cutE cutOk fitB; rw [hv_, hok, decide_eq_true ⟨h6, Int.le_refl 0⟩, hh_, decide_eq_false hno]; rfl
    refine ⟨e, ?_⟩
    unfold costV; rw [e]; rfl
  refine CallsP_of Try.func23 rfl (by rw [Try.ntmps23]; simp) ?_
  simp only [Try.ntmps23, List.map_cons, List.map_nil, PT.tv, argEnv, Nat.zero_add, Nat.reduceAdd]
  repeat' (first
    | (with_reducible refine AW_seq_k fun K hK => ?_)
    | ((first | (with_reducible refine And.intro ?_ ?_) | (with_reducible refine Need.mk ?_)); focus (first | exact True.intro | (with_reducible assumption) | omega | (refine ⟨?_, ?_⟩ <;> omega) | (intro _; first | exact True.intro | (with_reducible assumption) | omega) | (intros; (repeat' (first | exact True.intro | omega | (with_reducible assumption) | (with_reducible refine And.intro ?_ ?_))); done) | (simp (disch := omega) only [Bool.and_eq_true, Bool.or_eq_true, decide_eq_true_eq, bne_iff_ne, ne_eq] at *; first | done | omega | (intros; omega)) | (simp; done) | (simp; omega) | (simp +contextual; done) | (intro h; rw [h]; rfl) | (intros; simp_all; done)))
    | (with_reducible refine AW_skip ?_)
    | (with_reducible refine AW_exit ?_)
    | (with_reducible refine AW_ret ?_)
    | (with_reducible refine retK_n ?_)
    | (with_reducible refine retK_n' ?_)
    | (with_reducible refine retH_n rfl rfl rfl ?_)
    | (with_reducible refine retH_n' rfl rfl rfl ?_)
    | (with_reducible refine retO_n ?_ ?_)
    | (with_reducible refine retO_n' ?_ ?_)
    | (with_reducible refine AW_condI ?_)
    | (with_reducible refine AW_block ?_)
    | ((with_reducible refine condN_t ?_ ?_) <;> (intro hc; (try simp only [Bool.and_eq_true, Bool.or_eq_true, Bool.not_eq_true', Bool.and_eq_false_iff, Bool.or_eq_false_iff, decide_eq_true_eq, decide_eq_false_iff_not, bne_iff_ne, beq_iff_eq, reduceCtorEq, bne_eq_false_iff_eq, beq_eq_false_iff_ne, Bool.not_eq_false', Int.not_le, Int.not_lt, Bool.not_not] at hc); (skip); (try (exfalso; first | contradiction | omega))))
    | (with_reducible refine AW_regionP 0 [0, 1] ?_)
    | (with_reducible refine AW_regionP 1 [1, 2] ?_)
    | (with_reducible refine AW_regionP 2 [1, 2, 6] ?_)
    | (with_reducible refine AW_regionP 3 [1, 2, 6, 7] ?_)
    | (with_reducible refine AW_regionP 4 [] ?_)
    | (with_reducible refine AW_regionP 5 [1, 2] ?_)
    | (with_reducible refine AW_regionP 6 [8, 9] ?_)
    | (refine callN_q (k := 14) fnok_14 (rvalid_p n m D (by omega) hm hD) ?_ ?_)
    | (refine callN_q (k := 41) fnok_41 (rrec_p r R hr) ?_ ?_)
    | (refine callN_q (k := 42) fnok_42 (appends_no n m D hs hD k hk1 hk r R h6 hok hno) ?_ ?_)
    | ((fail_if_success (with_reducible show AW _ _ _ _)); simp (maxSteps := 2000000) only [go_sem, reduceIte, reduceCtorEq, Nat.reduceAdd, Nat.reduceLT, Nat.reduceLeDiff, Nat.reduceEqDiff, Nat.reduceMul, Nat.reduceSub, Nat.reduceBEq, Try.f23, ty_24, fnok_14, fnok_41, fnok_42, le_67, bytI, rowsI, hvt, hrt])
    | ((fail_if_success (with_reducible show AW _ _ _ _)); simp (disch := omega) only [seaWrap, seaDiv, seaMod])
    | ((with_reducible refine hK _ ?_); clear hK K))
  all_goals (first | (simp only [hcut.1, hcut.2]; done) | (simp only [hcut.1, hcut.2]; first | exact ⟨rfl, rfl⟩ | exact ⟨⟨rfl, rfl⟩, rfl⟩ | exact ⟨trivial, trivial⟩ | rfl))

set_option maxRecDepth 100000 in
set_option maxHeartbeats 4000000 in
theorem rcost_fit (n : Nat) (m : Nat → Nat) (D : Nat → Nat → Int) (hs : Szd n m) (hD : BytD D) (k : Nat) (hk1 : k ≤ 1) (hk : D 0 0 = (k : Int)) (r : Nat) (R : Nat → Int) (hr : r ≤ 9223372036854775807) (hok : okP (halfF n D k) (hlf n * 64) = true) (h6 : r ≤ 65535) (hfit : endP (halfF n D k) (hlf n * 64) + (r + 3) ≤ hlf n * 64) : CallsP Try.prog 23 [.agg [.lst 1 (n) (rowsI (m) (D))], .one (.lst 1 (r) (bytI (R)))] (.tup [.one (.g (.int .i64 (costV n m D r))), .one (.g (.int .i64 (cutE n m D r 0)))]) := by
  have h3 := hs.h3
  have h64 := hs.h63
  have hl := hs.hlf
  have hm0 := hs.m 0 (by omega)
  have hm : ∀ i, i < n → m i ≤ 9223372036854775807 := fun i hi => by have := hs.m i hi; omega
  have hsz := hs.b
  have hd0 := hD 0 0
  have hd1 : ((k : Int) > 1) = False := eq_false (by omega)
  have hv_ := vB_ok hs hk1 hk
  have hh_ := hv_k (n := n) hk
  have hle := endP_le (halfF n D k) (hlf n * 64)
  have hvt : vB n m D = true := hv_.trans hok
  have hrt : decide (r ≤ 65535) = true := decide_eq_true h6
  have hsec : (secsN (endP (halfF n D k) (hlf n * 64)) r (hlf n * 64)) ≤ 31 := by unfold secsN lastN; omega
  have hcut : cutE n m D r 0 = 0 ∧ costV n m D r = ((secsN (endP (halfF n D k) (hlf n * 64)) r (hlf n * 64) * 64 + 64 : Nat) : Int) := by
    have e : cutE n m D r 0 = 0 := by unfold cutE cutOk fitB; rw [hv_, hok, decide_eq_true ⟨h6, Int.le_refl 0⟩, hh_, decide_eq_true hfit]; rfl
    refine ⟨e, ?_⟩
    unfold costV; rw [e, hh_]; rfl
  refine CallsP_of Try.func23 rfl (by rw [Try.ntmps23]; simp) ?_
  simp only [Try.ntmps23, List.map_cons, List.map_nil, PT.tv, argEnv, Nat.zero_add, Nat.reduceAdd]
  repeat' (first
    | (with_reducible refine AW_seq_k fun K hK => ?_)
    | ((first | (with_reducible refine And.intro ?_ ?_) | (with_reducible refine Need.mk ?_)); focus (first | exact True.intro | (with_reducible assumption) | omega | (refine ⟨?_, ?_⟩ <;> omega) | (intro _; first | exact True.intro | (with_reducible assumption) | omega) | (intros; (repeat' (first | exact True.intro | omega | (with_reducible assumption) | (with_reducible refine And.intro ?_ ?_))); done) | (simp (disch := omega) only [Bool.and_eq_true, Bool.or_eq_true, decide_eq_true_eq, bne_iff_ne, ne_eq] at *; first | done | omega | (intros; omega)) | (simp; done) | (simp; omega) | (simp +contextual; done) | (intro h; rw [h]; rfl) | (intros; simp_all; done)))
    | (with_reducible refine AW_skip ?_)
    | (with_reducible refine AW_exit ?_)
    | (with_reducible refine AW_ret ?_)
    | (with_reducible refine retK_n ?_)
    | (with_reducible refine retK_n' ?_)
    | (with_reducible refine retH_n rfl rfl rfl ?_)
    | (with_reducible refine retH_n' rfl rfl rfl ?_)
    | (with_reducible refine retO_n ?_ ?_)
    | (with_reducible refine retO_n' ?_ ?_)
    | (with_reducible refine AW_condI ?_)
    | (with_reducible refine AW_block ?_)
    | ((with_reducible refine condN_t ?_ ?_) <;> (intro hc; (try simp only [Bool.and_eq_true, Bool.or_eq_true, Bool.not_eq_true', Bool.and_eq_false_iff, Bool.or_eq_false_iff, decide_eq_true_eq, decide_eq_false_iff_not, bne_iff_ne, beq_iff_eq, reduceCtorEq, bne_eq_false_iff_eq, beq_eq_false_iff_ne, Bool.not_eq_false', Int.not_le, Int.not_lt, Bool.not_not] at hc); (skip); (try (exfalso; first | contradiction | omega))))
    | (with_reducible refine AW_regionP 0 [0, 1] ?_)
    | (with_reducible refine AW_regionP 1 [1, 2] ?_)
    | (with_reducible refine AW_regionP 2 [1, 2, 6] ?_)
    | (with_reducible refine AW_regionP 3 [1, 2, 6, 7] ?_)
    | (with_reducible refine AW_regionP 4 [] ?_)
    | (with_reducible refine AW_regionP 5 [1, 2] ?_)
    | (with_reducible refine AW_regionP 6 [8, 9] ?_)
    | (refine callN_q (k := 14) fnok_14 (rvalid_p n m D (by omega) hm hD) ?_ ?_)
    | (refine callN_q (k := 41) fnok_41 (rrec_p r R hr) ?_ ?_)
    | (refine callN_q (k := 42) fnok_42 (appends_fit n m D hs hD k hk1 hk r R h6 hok hfit) ?_ ?_)
    | ((fail_if_success (with_reducible show AW _ _ _ _)); simp (maxSteps := 2000000) only [go_sem, reduceIte, reduceCtorEq, Nat.reduceAdd, Nat.reduceLT, Nat.reduceLeDiff, Nat.reduceEqDiff, Nat.reduceMul, Nat.reduceSub, Nat.reduceBEq, Try.f23, ty_24, fnok_14, fnok_41, fnok_42, le_67, bytI, rowsI, hvt, hrt])
    | ((fail_if_success (with_reducible show AW _ _ _ _)); simp (disch := omega) only [seaWrap, seaDiv, seaMod])
    | ((with_reducible refine hK _ ?_); clear hK K))
  all_goals (first | (simp only [hcut.1, hcut.2]; done) | (simp only [hcut.1, hcut.2]; first | exact ⟨by omega, trivial⟩ | exact ⟨by omega, rfl⟩ | omega))

theorem rcost_p (n : Nat) (m : Nat → Nat) (D : Nat → Nat → Int) (hn : n ≤ 9223372036854775807) (hm : ∀ i, i < n → m i ≤ 9223372036854775807) (hD : BytD D) (r : Nat) (R : Nat → Int) (hr : r ≤ 9223372036854775807) : CallsP Try.prog 23 [.agg [.lst 1 (n) (rowsI (m) (D))], .one (.lst 1 (r) (bytI (R)))] (.tup [.one (.g (.int .i64 (costV n m D r))), .one (.g (.int .i64 (cutE n m D r 0)))]) := by
  cases hc : cutOk n m D r 0 with
  | false => exact rcost_bad n m D hn hm hD r R hr hc
  | true =>
    have h1 := hc
    unfold cutOk at h1
    rw [Bool.and_eq_true, decide_eq_true_eq] at h1
    rcases disk_cases n m D hD with hs | ⟨hs, hd⟩ | ⟨k, hs, hk1, hk⟩
    · rw [vB_no1 hs] at h1; cases h1.1
    · rw [vB_no2 hd] at h1; cases h1.1
    · rw [vB_ok hs hk1 hk] at h1
      by_cases hf : endP (halfF n D k) (hlf n * 64) + (r + 3) ≤ hlf n * 64
      · exact rcost_fit n m D hs hD k hk1 hk r R hr h1.1 h1.2.1 hf
      · exact rcost_nof n m D hs hD k hk1 hk r R hr h1.1 h1.2.1 hf

set_option maxRecDepth 100000 in
set_option maxHeartbeats 4000000 in
theorem rcc_bad (n : Nat) (m : Nat → Nat) (D : Nat → Nat → Int) (hn : n ≤ 9223372036854775807) (hm : ∀ i, i < n → m i ≤ 9223372036854775807) (hD : BytD D) (n' : Nat) (m' : Nat → Nat) (D' : Nat → Nat → Int) (hn' : n' ≤ 9223372036854775807) (hm' : ∀ i, i < n' → m' i ≤ 9223372036854775807) (af : Int) (haf : -9223372036854775808 ≤ af ∧ af ≤ 9223372036854775807) (hc : cmpOk n m D n' m' af = false) : CallsP Try.prog 32 [.agg [.lst 1 (n) (rowsI (m) (D))], .one (.lst 1 (n') (rowsI (m') (D'))), .one (.g (.int .i64 (af)))] (.tup [.agg [.lst 1 (cmpN n m D n' m' af) (rowsI (c64) (cmpD n D n' m' D' af.toNat))], .one (.g (.int .i64 (cmpE n m D n' m' af)))]) := by
  have hcut := cmp_no hc
  have hbad : bI n m D m' n' = true → ¬ 0 ≤ af := by
    intro h1 h3
    unfold cmpOk at hc
    unfold bI at h1
    rw [h1, decide_eq_true h3] at hc
    cases hc
  refine CallsP_of Try.func32 rfl (by rw [Try.ntmps32]; simp) ?_
  simp only [Try.ntmps32, List.map_cons, List.map_nil, PT.tv, argEnv, Nat.zero_add, Nat.reduceAdd]
  repeat' (first
    | (with_reducible refine AW_seq_k fun K hK => ?_)
    | ((first | (with_reducible refine And.intro ?_ ?_) | (with_reducible refine Need.mk ?_)); focus (first | exact True.intro | (with_reducible assumption) | omega | (refine ⟨?_, ?_⟩ <;> omega) | (intro _; first | exact True.intro | (with_reducible assumption) | omega) | (intros; (repeat' (first | exact True.intro | omega | (with_reducible assumption) | (with_reducible refine And.intro ?_ ?_))); done) | (simp (disch := omega) only [Bool.and_eq_true, Bool.or_eq_true, decide_eq_true_eq, bne_iff_ne, ne_eq] at *; first | done | omega | (intros; omega)) | (simp; done) | (simp; omega) | (simp +contextual; done) | (intro h; rw [h]; rfl) | (intros; simp_all; done)))
    | (with_reducible refine AW_skip ?_)
    | (with_reducible refine AW_exit ?_)
    | (with_reducible refine AW_ret ?_)
    | (with_reducible refine retK_n ?_)
    | (with_reducible refine retK_n' ?_)
    | (with_reducible refine retH_n rfl rfl rfl ?_)
    | (with_reducible refine retH_n' rfl rfl rfl ?_)
    | (with_reducible refine retO_n ?_ ?_)
    | (with_reducible refine retO_n' ?_ ?_)
    | (with_reducible refine AW_condI ?_)
    | (with_reducible refine AW_block ?_)
    | ((with_reducible refine condN_t ?_ ?_) <;> (intro hc; (try simp only [Bool.and_eq_true, Bool.or_eq_true, Bool.not_eq_true', Bool.and_eq_false_iff, Bool.or_eq_false_iff, decide_eq_true_eq, decide_eq_false_iff_not, bne_iff_ne, beq_iff_eq, reduceCtorEq, bne_eq_false_iff_eq, beq_eq_false_iff_ne, Bool.not_eq_false', Int.not_le, Int.not_lt, Bool.not_not] at hc); ((try (have e0 : n' = i := (by omega); subst e0)); (try (exfalso; exact hbad hc.1 (by omega)))); (try (exfalso; first | contradiction | omega))))
    | (with_reducible refine AW_regionP 0 [0, 1, 2] ?_)
    | (with_reducible refine AW_regionP 1 [1, 2, 3, 6] ?_)
    | (with_reducible refine AW_regionP 2 [1, 2, 3, 6, 8] ?_)
    | (with_reducible refine AW_regionP 3 [1, 2, 3, 6, 8, 9] ?_)
    | (with_reducible refine AW_regionP 4 [1, 2, 3, 6, 8, 9] ?_)
    | (with_reducible refine AW_regionP 5 [1, 2, 3, 6, 8, 9] ?_)
    | (with_reducible refine AW_regionP 6 [1, 2, 3, 6, 8, 9, 10] ?_)
    | (with_reducible refine AW_regionP 7 [1, 2, 3, 6, 8] ?_)
    | (with_reducible refine AW_regionP 8 [6] ?_)
    | (with_reducible refine AW_regionP 9 [1, 2, 3, 6] ?_)
    | (with_reducible refine AW_regionP 10 [2, 3, 6, 11, 12] ?_)
    | (with_reducible refine AW_regionP 11 [6, 12] ?_)
    | (with_reducible refine AW_regionP 12 [2, 3, 6, 11] ?_)
    | (refine callN_q (k := 14) fnok_14 (rvalid_p n m D hn hm hD) ?_ ?_)
    | (refine callN_q (k := 41) fnok_41 (rrec_p (m' i) (D' i) (hm' i (by omega))) ?_ ?_)
    | ((with_reducible refine AW_loopQ (c := (Code.seq (Code.seq (Code.region 3 _ _) _) _)) (ι := Nat) [1, 2, 3, 6] (fun i => [(8, .t (.one (.iv (.g (.bool (bI n m D m' i)))))), (9, iA .i64 (i : Int))]) (fun i => []) (fun i => i ≤ n') (fun i => n' - i) 0 ?lg3 ?l13 ?l23 ?li3 ?lr3); (case' lg3 => rintro i _); (case' li3 => try (first | trivial | omega | (simp; done) | (simp; omega))); (case' lr3 => rintro i hi KR hR3; have hmi := hm' i; simp only [keepE, hupd, hset, lk, if_true, if_false, Nat.reduceEqDiff, reduceIte, List.cons_append, List.nil_append, bytI, rowsI]))
    | ((with_reducible refine hR3 _ (i + 1) ?_); (try clear hR3 KR))
    | ((with_reducible refine Told.mk ?_); simp only [go_sem, reduceIte, reduceCtorEq, Nat.reduceAdd, Nat.reduceLT, Nat.reduceLeDiff, Nat.reduceEqDiff, Nat.reduceMul, Nat.reduceSub, Nat.reduceBEq, bytI, rowsI] <;> (first | exact True.intro | (((try simp (disch := omega) only [seaWrap, Int.natCast_add, Int.cast_ofNat_Int, and_true, true_and, and_self]); (repeat' (first | exact True.intro | omega | rfl | (with_reducible assumption) | (with_reducible refine And.intro ?_ ?_) | (exact all_succ (by assumption) (by assumption)) | (exact bI_0) | (exact bI_s))); done)) | (refine Stuck.out ?_)))
    | ((fail_if_success (with_reducible show AW _ _ _ _)); simp (maxSteps := 2000000) only [go_sem, reduceIte, reduceCtorEq, Nat.reduceAdd, Nat.reduceLT, Nat.reduceLeDiff, Nat.reduceEqDiff, Nat.reduceMul, Nat.reduceSub, Nat.reduceBEq, Try.f32, zc_24, ty_24, fnok_14, le_22, sl_22, ar_22, ty_25, fnok_41, fo_24, fnok_51, fnok_43, bytI, rowsI])
    | ((fail_if_success (with_reducible show AW _ _ _ _)); simp (disch := omega) only [seaWrap, seaDiv, seaMod])
    | ((with_reducible refine hK _ ?_); clear hK K)
    | (with_reducible apply_assumption -exfalso only [*]))
  all_goals (first | (simp only [hcut.1, hcut.2]; done) | (simp only [hcut.1, hcut.2]; first | exact ⟨rfl, rfl⟩ | exact ⟨⟨rfl, rfl⟩, rfl⟩ | exact ⟨trivial, trivial⟩ | rfl))

set_option maxRecDepth 100000 in
set_option maxHeartbeats 4000000 in
theorem rcc_full (n : Nat) (m : Nat → Nat) (D : Nat → Nat → Int) (hs : Szd n m) (hD : BytD D) (k : Nat) (hk1 : k ≤ 1) (hk : D 0 0 = (k : Int)) (hok : okP (halfF n D k) (hlf n * 64) = true) (n' : Nat) (m' : Nat → Nat) (D' : Nat → Nat → Int) (hn' : n' ≤ 100) (hm' : ∀ i, i < n' → m' i ≤ 65535) (af : Int) (haf : -9223372036854775808 ≤ af ∧ af ≤ 9223372036854775807) (h0 : 0 ≤ af) (hfull : hlf n * 64 < encP m' n') : CallsP Try.prog 32 [.agg [.lst 1 (n) (rowsI (m) (D))], .one (.lst 1 (n') (rowsI (m') (D'))), .one (.g (.int .i64 (af)))] (.tup [.agg [.lst 1 (cmpN n m D n' m' af) (rowsI (c64) (cmpD n D n' m' D' af.toNat))], .one (.g (.int .i64 (cmpE n m D n' m' af)))]) := by
  have h3 := hs.h3
  have h64 := hs.h63
  have hl := hs.hlf
  have hm0 := hs.m 0 (by omega)
  have hm : ∀ i, i < n → m i ≤ 9223372036854775807 := fun i hi => by have := hs.m i hi; omega
  have hsz := hs.b
  have hd0 := hD 0 0
  have hd1 : ((k : Int) > 1) = False := eq_false (by omega)
  have hv_ := vB_ok hs hk1 hk
  have hvt : vB n m D = true := hv_.trans hok
  have hmm : ∀ i, i < n' → m' i ≤ 9223372036854775807 := fun i hi => by have := hm' i hi; omega
  have hfl := firstN_le (n := n) (show 1 - k ≤ 1 by omega)
  have hlong : anyB n' (longB m') = false := by
    unfold anyB longB
    refine decide_eq_false fun ⟨i, hi, h⟩ => ?_
    have := hm' i hi
    have := of_decide_eq_true h
    omega
  have hbt : bI n m D m' n' = true := by unfold bI; rw [hvt, hlong]; rfl
  have haf0 : ((af.toNat : Nat) : Int) = af := by omega
  have hcok : cmpOk n m D n' m' af = true := by unfold cmpOk; rw [hvt, hlong, decide_eq_true h0]; rfl
  have hcut : cmpE n m D n' m' af = 17 ∧ cmpN n m D n' m' af = 0 := by
    have e : cmpE n m D n' m' af = 17 := by unfold cmpE; rw [hcok, if_pos rfl, if_neg (by omega)]
    refine ⟨e, ?_⟩
    unfold cmpN; rw [e]; rfl
  refine CallsP_of Try.func32 rfl (by rw [Try.ntmps32]; simp) ?_
  simp only [Try.ntmps32, List.map_cons, List.map_nil, PT.tv, argEnv, Nat.zero_add, Nat.reduceAdd]
  repeat' (first
    | (with_reducible refine AW_seq_k fun K hK => ?_)
    | ((first | (with_reducible refine And.intro ?_ ?_) | (with_reducible refine Need.mk ?_)); focus (first | exact True.intro | (with_reducible assumption) | omega | (refine ⟨?_, ?_⟩ <;> omega) | (intro _; first | exact True.intro | (with_reducible assumption) | omega) | (intros; (repeat' (first | exact True.intro | omega | (with_reducible assumption) | (with_reducible refine And.intro ?_ ?_))); done) | (simp (disch := omega) only [Bool.and_eq_true, Bool.or_eq_true, decide_eq_true_eq, bne_iff_ne, ne_eq] at *; first | done | omega | (intros; omega)) | (simp; done) | (simp; omega) | (simp +contextual; done) | (intro h; rw [h]; rfl) | (intros; simp_all; done)))
    | (with_reducible refine AW_skip ?_)
    | (with_reducible refine AW_exit ?_)
    | (with_reducible refine AW_ret ?_)
    | (with_reducible refine retK_n ?_)
    | (with_reducible refine retK_n' ?_)
    | (with_reducible refine retH_n rfl rfl rfl ?_)
    | (with_reducible refine retH_n' rfl rfl rfl ?_)
    | (with_reducible refine retO_n ?_ ?_)
    | (with_reducible refine retO_n' ?_ ?_)
    | (with_reducible refine AW_condI ?_)
    | (with_reducible refine AW_block ?_)
    | ((with_reducible refine condN_t ?_ ?_) <;> (intro hc; (try simp only [Bool.and_eq_true, Bool.or_eq_true, Bool.not_eq_true', Bool.and_eq_false_iff, Bool.or_eq_false_iff, decide_eq_true_eq, decide_eq_false_iff_not, bne_iff_ne, beq_iff_eq, reduceCtorEq, bne_eq_false_iff_eq, beq_eq_false_iff_ne, Bool.not_eq_false', Int.not_le, Int.not_lt, Bool.not_not] at hc); ((try (have e0 : n' = i := (by omega); subst e0))); (try (exfalso; first | contradiction | omega))))
    | (with_reducible refine AW_regionP 0 [0, 1, 2] ?_)
    | (with_reducible refine AW_regionP 1 [1, 2, 3, 6] ?_)
    | (with_reducible refine AW_regionP 2 [1, 2, 3, 6, 8] ?_)
    | (with_reducible refine AW_regionP 3 [1, 2, 3, 6, 8, 9] ?_)
    | (with_reducible refine AW_regionP 4 [1, 2, 3, 6, 8, 9] ?_)
    | (with_reducible refine AW_regionP 5 [1, 2, 3, 6, 8, 9] ?_)
    | (with_reducible refine AW_regionP 6 [1, 2, 3, 6, 8, 9, 10] ?_)
    | (with_reducible refine AW_regionP 7 [1, 2, 3, 6, 8] ?_)
    | (with_reducible refine AW_regionP 8 [6] ?_)
    | (with_reducible refine AW_regionP 9 [1, 2, 3, 6] ?_)
    | (with_reducible refine AW_regionP 10 [2, 3, 6, 11, 12] ?_)
    | (with_reducible refine AW_regionP 11 [6, 12] ?_)
    | (with_reducible refine AW_regionP 12 [2, 3, 6, 11] ?_)
    | (refine callN_q (k := 14) fnok_14 (rvalid_p n m D (by omega) hm hD) ?_ ?_)
    | (refine callN_q (k := 41) fnok_41 (rrec_p (m' i) (D' i) (hmm i (by omega))) ?_ ?_)
    | (refine callN_q (k := 51) fnok_51 (compacts_no n m D hs hD k hk1 hk n' m' D' hn' hm' _ rfl hfull) ?_ ?_)
    | ((with_reducible refine AW_loopQ (c := (Code.seq (Code.seq (Code.region 3 _ _) _) _)) (ι := Nat) [1, 2, 3, 6] (fun i => [(8, .t (.one (.iv (.g (.bool (bI n m D m' i)))))), (9, iA .i64 (i : Int))]) (fun i => []) (fun i => i ≤ n') (fun i => n' - i) 0 ?lg3 ?l13 ?l23 ?li3 ?lr3); (case' lg3 => rintro i _); (case' li3 => try (first | trivial | omega | (simp; done) | (simp; omega))); (case' lr3 => rintro i hi KR hR3; have hmi := hmm i; simp only [keepE, hupd, hset, lk, if_true, if_false, Nat.reduceEqDiff, reduceIte, List.cons_append, List.nil_append, bytI, rowsI, hbt]))
    | ((with_reducible refine hR3 _ (i + 1) ?_); (try clear hR3 KR))
    | ((with_reducible refine Told.mk ?_); simp only [go_sem, reduceIte, reduceCtorEq, Nat.reduceAdd, Nat.reduceLT, Nat.reduceLeDiff, Nat.reduceEqDiff, Nat.reduceMul, Nat.reduceSub, Nat.reduceBEq, bytI, rowsI, hbt] <;> (first | exact True.intro | (((try simp (disch := omega) only [seaWrap, Int.natCast_add, Int.cast_ofNat_Int, and_true, true_and, and_self]); (repeat' (first | exact True.intro | omega | rfl | (with_reducible assumption) | (with_reducible refine And.intro ?_ ?_) | (exact all_succ (by assumption) (by assumption)) | (exact bI_0) | (exact bI_s))); done)) | (refine Stuck.out ?_)))
    | ((fail_if_success (with_reducible show AW _ _ _ _)); simp (maxSteps := 2000000) only [go_sem, reduceIte, reduceCtorEq, Nat.reduceAdd, Nat.reduceLT, Nat.reduceLeDiff, Nat.reduceEqDiff, Nat.reduceMul, Nat.reduceSub, Nat.reduceBEq, Try.f32, zc_24, ty_24, fnok_14, le_22, sl_22, ar_22, ty_25, fnok_41, fo_24, fnok_51, fnok_43, bytI, rowsI, hbt])
    | ((fail_if_success (with_reducible show AW _ _ _ _)); simp (disch := omega) only [seaWrap, seaDiv, seaMod])
    | ((with_reducible refine hK _ ?_); clear hK K)
    | (with_reducible apply_assumption -exfalso only [*]))
  all_goals (first | (simp only [hcut.1, hcut.2]; done) | (simp only [hcut.1, hcut.2]; first | exact ⟨rfl, rfl⟩ | exact ⟨⟨rfl, rfl⟩, rfl⟩ | exact ⟨trivial, trivial⟩ | rfl))

set_option maxRecDepth 100000 in
set_option maxHeartbeats 4000000 in
theorem rcc_ok (n : Nat) (m : Nat → Nat) (D : Nat → Nat → Int) (hs : Szd n m) (hD : BytD D) (k : Nat) (hk1 : k ≤ 1) (hk : D 0 0 = (k : Int)) (hok : okP (halfF n D k) (hlf n * 64) = true) (n' : Nat) (m' : Nat → Nat) (D' : Nat → Nat → Int) (hn' : n' ≤ 100) (hm' : ∀ i, i < n' → m' i ≤ 65535) (af : Int) (haf : -9223372036854775808 ≤ af ∧ af ≤ 9223372036854775807) (h0 : 0 ≤ af) (hfit : encP m' n' ≤ hlf n * 64) : CallsP Try.prog 32 [.agg [.lst 1 (n) (rowsI (m) (D))], .one (.lst 1 (n') (rowsI (m') (D'))), .one (.g (.int .i64 (af)))] (.tup [.agg [.lst 1 (cmpN n m D n' m' af) (rowsI (c64) (cmpD n D n' m' D' af.toNat))], .one (.g (.int .i64 (cmpE n m D n' m' af)))]) := by
  have h3 := hs.h3
  have h64 := hs.h63
  have hl := hs.hlf
  have hm0 := hs.m 0 (by omega)
  have hm : ∀ i, i < n → m i ≤ 9223372036854775807 := fun i hi => by have := hs.m i hi; omega
  have hsz := hs.b
  have hd0 := hD 0 0
  have hd1 : ((k : Int) > 1) = False := eq_false (by omega)
  have hv_ := vB_ok hs hk1 hk
  have hvt : vB n m D = true := hv_.trans hok
  have hmm : ∀ i, i < n' → m' i ≤ 9223372036854775807 := fun i hi => by have := hm' i hi; omega
  have hfl := firstN_le (n := n) (show 1 - k ≤ 1 by omega)
  have hlong : anyB n' (longB m') = false := by
    unfold anyB longB
    refine decide_eq_false fun ⟨i, hi, h⟩ => ?_
    have := hm' i hi
    have := of_decide_eq_true h
    omega
  have hbt : bI n m D m' n' = true := by unfold bI; rw [hvt, hlong]; rfl
  have haf0 : ((af.toNat : Nat) : Int) = af := by omega
  have hcok : cmpOk n m D n' m' af = true := by unfold cmpOk; rw [hvt, hlong, decide_eq_true h0]; rfl
  have hcut : cmpE n m D n' m' af = 0 ∧ cmpN n m D n' m' af = n := by
    have e : cmpE n m D n' m' af = 0 := by unfold cmpE; rw [hcok, if_pos rfl, if_pos (by omega)]
    refine ⟨e, ?_⟩
    unfold cmpN; rw [e]; rfl
  refine CallsP_of Try.func32 rfl (by rw [Try.ntmps32]; simp) ?_
  simp only [Try.ntmps32, List.map_cons, List.map_nil, PT.tv, argEnv, Nat.zero_add, Nat.reduceAdd]
  repeat' (first
    | (with_reducible refine AW_seq_k fun K hK => ?_)
    | ((first | (with_reducible refine And.intro ?_ ?_) | (with_reducible refine Need.mk ?_)); focus (first | exact True.intro | (with_reducible assumption) | omega | (refine ⟨?_, ?_⟩ <;> omega) | (intro _; first | exact True.intro | (with_reducible assumption) | omega) | (intros; (repeat' (first | exact True.intro | omega | (with_reducible assumption) | (with_reducible refine And.intro ?_ ?_))); done) | (simp (disch := omega) only [Bool.and_eq_true, Bool.or_eq_true, decide_eq_true_eq, bne_iff_ne, ne_eq] at *; first | done | omega | (intros; omega)) | (simp; done) | (simp; omega) | (simp +contextual; done) | (intro h; rw [h]; rfl) | (intros; simp_all; done)))
    | (with_reducible refine AW_skip ?_)
    | (with_reducible refine AW_exit ?_)
    | (with_reducible refine AW_ret ?_)
    | (with_reducible refine retK_n ?_)
    | (with_reducible refine retK_n' ?_)
    | (with_reducible refine retH_n rfl rfl rfl ?_)
    | (with_reducible refine retH_n' rfl rfl rfl ?_)
    | (with_reducible refine retO_n ?_ ?_)
    | (with_reducible refine retO_n' ?_ ?_)
    | (with_reducible refine AW_condI ?_)
    | (with_reducible refine AW_block ?_)
    | ((with_reducible refine condN_t ?_ ?_) <;> (intro hc; (try simp only [Bool.and_eq_true, Bool.or_eq_true, Bool.not_eq_true', Bool.and_eq_false_iff, Bool.or_eq_false_iff, decide_eq_true_eq, decide_eq_false_iff_not, bne_iff_ne, beq_iff_eq, reduceCtorEq, bne_eq_false_iff_eq, beq_eq_false_iff_ne, Bool.not_eq_false', Int.not_le, Int.not_lt, Bool.not_not] at hc); ((try (have e0 : n' = i := (by omega); subst e0))); (try (exfalso; first | contradiction | omega))))
    | (with_reducible refine AW_regionP 0 [0, 1, 2] ?_)
    | (with_reducible refine AW_regionP 1 [1, 2, 3, 6] ?_)
    | (with_reducible refine AW_regionP 2 [1, 2, 3, 6, 8] ?_)
    | (with_reducible refine AW_regionP 3 [1, 2, 3, 6, 8, 9] ?_)
    | (with_reducible refine AW_regionP 4 [1, 2, 3, 6, 8, 9] ?_)
    | (with_reducible refine AW_regionP 5 [1, 2, 3, 6, 8, 9] ?_)
    | (with_reducible refine AW_regionP 6 [1, 2, 3, 6, 8, 9, 10] ?_)
    | (with_reducible refine AW_regionP 7 [1, 2, 3, 6, 8] ?_)
    | (with_reducible refine AW_regionP 8 [6] ?_)
    | (with_reducible refine AW_regionP 9 [1, 2, 3, 6] ?_)
    | (with_reducible refine AW_regionP 10 [2, 3, 6, 11, 12] ?_)
    | (with_reducible refine AW_regionP 11 [6, 12] ?_)
    | (with_reducible refine AW_regionP 12 [2, 3, 6, 11] ?_)
    | (refine callN_q (k := 14) fnok_14 (rvalid_p n m D (by omega) hm hD) ?_ ?_)
    | (refine callN_q (k := 41) fnok_41 (rrec_p (m' i) (D' i) (hmm i (by omega))) ?_ ?_)
    | (refine callN_q (k := 51) fnok_51 (compacts_ok n m D hs hD k hk1 hk n' m' D' hn' hm' _ rfl hfit) ?_ ?_)
    | (refine callN_q (k := 43) fnok_43 ((by have h := done_p n m D hs.h63 hs.m (hlf n + 1) (cpS (firstN n (1 - k)) (hlf n)) (cpW m' D' n' D (1 - (k : Int)) (hlf n)) (by omega) (fun i hi => by unfold cpS; split <;> omega) af.toNat (by omega); rw [haf0] at h; exact h)) ?_ ?_)
    | ((with_reducible refine AW_loopQ (c := (Code.seq (Code.seq (Code.region 3 _ _) _) _)) (ι := Nat) [1, 2, 3, 6] (fun i => [(8, .t (.one (.iv (.g (.bool (bI n m D m' i)))))), (9, iA .i64 (i : Int))]) (fun i => []) (fun i => i ≤ n') (fun i => n' - i) 0 ?lg3 ?l13 ?l23 ?li3 ?lr3); (case' lg3 => rintro i _); (case' li3 => try (first | trivial | omega | (simp; done) | (simp; omega))); (case' lr3 => rintro i hi KR hR3; have hmi := hmm i; simp only [keepE, hupd, hset, lk, if_true, if_false, Nat.reduceEqDiff, reduceIte, List.cons_append, List.nil_append, bytI, rowsI, hbt]))
    | ((with_reducible refine hR3 _ (i + 1) ?_); (try clear hR3 KR))
    | ((with_reducible refine Told.mk ?_); simp only [go_sem, reduceIte, reduceCtorEq, Nat.reduceAdd, Nat.reduceLT, Nat.reduceLeDiff, Nat.reduceEqDiff, Nat.reduceMul, Nat.reduceSub, Nat.reduceBEq, bytI, rowsI, hbt] <;> (first | exact True.intro | (((try simp (disch := omega) only [seaWrap, Int.natCast_add, Int.cast_ofNat_Int, and_true, true_and, and_self]); (repeat' (first | exact True.intro | omega | rfl | (with_reducible assumption) | (with_reducible refine And.intro ?_ ?_) | (exact all_succ (by assumption) (by assumption)) | (exact bI_0) | (exact bI_s))); done)) | (refine Stuck.out ?_)))
    | ((fail_if_success (with_reducible show AW _ _ _ _)); simp (maxSteps := 2000000) only [go_sem, reduceIte, reduceCtorEq, Nat.reduceAdd, Nat.reduceLT, Nat.reduceLeDiff, Nat.reduceEqDiff, Nat.reduceMul, Nat.reduceSub, Nat.reduceBEq, Try.f32, zc_24, ty_24, fnok_14, le_22, sl_22, ar_22, ty_25, fnok_41, fo_24, fnok_51, fnok_43, bytI, rowsI, hbt])
    | ((fail_if_success (with_reducible show AW _ _ _ _)); simp (disch := omega) only [seaWrap, seaDiv, seaMod])
    | ((with_reducible refine hK _ ?_); clear hK K)
    | (with_reducible apply_assumption -exfalso only [*]))
  all_goals (simp only [hcut.1, hcut.2]; first | exact ⟨⟨trivial, fun i o hi ho i1 o1 hi1 ho1 => dn_cp hk1 hk hi1⟩, trivial⟩ | exact ⟨⟨trivial, fun i o hi ho => ⟨rfl, rfl, fun i1 o1 hi1 ho1 => u8_eqv (dn_cp hk1 hk hi1)⟩⟩, trivial⟩)

theorem rcc_p (n : Nat) (m : Nat → Nat) (D : Nat → Nat → Int) (hn : n ≤ 9223372036854775807) (hm : ∀ i, i < n → m i ≤ 9223372036854775807) (hD : BytD D) (n' : Nat) (m' : Nat → Nat) (D' : Nat → Nat → Int) (hn' : n' ≤ 100) (hm' : ∀ i, i < n' → m' i ≤ 9223372036854775807) (af : Int) (haf : -9223372036854775808 ≤ af ∧ af ≤ 9223372036854775807) : CallsP Try.prog 32 [.agg [.lst 1 (n) (rowsI (m) (D))], .one (.lst 1 (n') (rowsI (m') (D'))), .one (.g (.int .i64 (af)))] (.tup [.agg [.lst 1 (cmpN n m D n' m' af) (rowsI (c64) (cmpD n D n' m' D' af.toNat))], .one (.g (.int .i64 (cmpE n m D n' m' af)))]) := by
  cases hc : cmpOk n m D n' m' af with
  | false => exact rcc_bad n m D hn hm hD n' m' D' (by omega) hm' af haf hc
  | true =>
    have h1 := hc
    unfold cmpOk at h1
    rw [Bool.and_eq_true, Bool.and_eq_true, decide_eq_true_eq, Bool.not_eq_true'] at h1
    have hl : ∀ i, i < n' → m' i ≤ 65535 := fun i hi => by
      have := of_decide_eq_false h1.1.2
      refine Nat.le_of_not_lt fun h => this ⟨i, hi, decide_eq_true h⟩
    rcases disk_cases n m D hD with hs | ⟨hs, hd⟩ | ⟨k, hs, hk1, hk⟩
    · rw [vB_no1 hs] at h1; cases h1.1.1
    · rw [vB_no2 hd] at h1; cases h1.1.1
    · rw [vB_ok hs hk1 hk] at h1
      by_cases hf : encP m' n' ≤ hlf n * 64
      · exact rcc_ok n m D hs hD k hk1 hk h1.1.1 n' m' D' hn' hl af haf h1.2 hf
      · exact rcc_full n m D hs hD k hk1 hk h1.1.1 n' m' D' hn' hl af haf h1.2 (by omega)

set_option maxRecDepth 100000 in
set_option maxHeartbeats 4000000 in
theorem rcompact_0 (n : Nat) (m : Nat → Nat) (D : Nat → Nat → Int) (hn : n ≤ 9223372036854775807) (hm : ∀ i, i < n → m i ≤ 9223372036854775807) (hD : BytD D) (n' : Nat) (m' : Nat → Nat) (D' : Nat → Nat → Int) (hn' : n' ≤ 100) (hm' : ∀ i, i < n' → m' i ≤ 9223372036854775807) : CallsP Try.prog 30 [.agg [.lst 1 (n) (rowsI (m) (D))], .one (.lst 1 (n') (rowsI (m') (D')))] (.tup [.agg [.lst 1 (cmpN n m D n' m' 4480) (rowsI (c64) (cmpD n D n' m' D' 4480))], .one (.g (.int .i64 (cmpE n m D n' m' 4480)))]) := by
  refine CallsP_of Try.func30 rfl (by rw [Try.ntmps30]; simp) ?_
  simp only [Try.ntmps30, List.map_cons, List.map_nil, PT.tv, argEnv, Nat.zero_add, Nat.reduceAdd]
  repeat' (first
    | (with_reducible refine AW_seq_k fun K hK => ?_)
    | ((first | (with_reducible refine And.intro ?_ ?_) | (with_reducible refine Need.mk ?_)); focus (first | exact True.intro | (with_reducible assumption) | omega | (refine ⟨?_, ?_⟩ <;> omega) | (intro _; first | exact True.intro | (with_reducible assumption) | omega) | (intros; (repeat' (first | exact True.intro | omega | (with_reducible assumption) | (with_reducible refine And.intro ?_ ?_))); done) | (simp (disch := omega) only [Bool.and_eq_true, Bool.or_eq_true, decide_eq_true_eq, bne_iff_ne, ne_eq] at *; first | done | omega | (intros; omega)) | (simp; done) | (simp; omega) | (simp +contextual; done) | (intro h; rw [h]; rfl) | (intros; simp_all; done)))
    | (with_reducible refine AW_skip ?_)
    | (with_reducible refine AW_exit ?_)
    | (with_reducible refine AW_ret ?_)
    | (with_reducible refine retK_n ?_)
    | (with_reducible refine retK_n' ?_)
    | (with_reducible refine retH_n rfl rfl rfl ?_)
    | (with_reducible refine retH_n' rfl rfl rfl ?_)
    | (with_reducible refine retO_n ?_ ?_)
    | (with_reducible refine retO_n' ?_ ?_)
    | (with_reducible refine AW_condI ?_)
    | (with_reducible refine AW_block ?_)
    | ((with_reducible refine condN_t ?_ ?_) <;> (intro hc; (try simp only [Bool.and_eq_true, Bool.or_eq_true, Bool.not_eq_true', Bool.and_eq_false_iff, Bool.or_eq_false_iff, decide_eq_true_eq, decide_eq_false_iff_not, bne_iff_ne, beq_iff_eq, reduceCtorEq, bne_eq_false_iff_eq, beq_eq_false_iff_ne, Bool.not_eq_false', Int.not_le, Int.not_lt, Bool.not_not] at hc); (try (exfalso; first | contradiction | omega))))
    | (with_reducible refine AW_regionP 0 [0, 1] ?_)
    | (with_reducible refine AW_regionP 1 [1, 2, 4] ?_)
    | (refine callN_q (k := 32) fnok_32 (rcc_p n m D hn hm hD n' m' D' hn' hm' 4480 (by omega)) ?_ ?_)
    | ((fail_if_success (with_reducible show AW _ _ _ _)); simp (maxSteps := 2000000) only [go_sem, reduceIte, reduceCtorEq, Nat.reduceAdd, Nat.reduceLT, Nat.reduceLeDiff, Nat.reduceEqDiff, Nat.reduceMul, Nat.reduceSub, Nat.reduceBEq, Try.f30, zc_24, ty_24, fnok_32, bytI, rowsI])
    | ((with_reducible refine hK _ ?_); clear hK K))
  all_goals (intros; rfl)

theorem rcompact_p (n : Nat) (m : Nat → Nat) (D : Nat → Nat → Int) (hn : n ≤ 9223372036854775807) (hm : ∀ i, i < n → m i ≤ 9223372036854775807) (hD : BytD D) (n' : Nat) (m' : Nat → Nat) (D' : Nat → Nat → Int) (hn' : n' ≤ 100) (hm' : ∀ i, i < n' → m' i ≤ 9223372036854775807) : CallsP Try.prog 30 [.agg [.lst 1 (n) (rowsI (m) (D))], .one (.lst 1 (n') (rowsI (m') (D')))] (.tup [.agg [.lst 1 (cmpN n m D n' m' 1048576) (rowsI (c64) (cmpD n D n' m' D' 1048576))], .one (.g (.int .i64 (cmpE n m D n' m' 1048576)))]) :=
  CallsP.eqv (rcompact_0 n m D hn hm hD n' m' D' hn' hm') ⟨PT.eqv_refl _, PT.eqv_refl _, trivial⟩ ⟨⟨⟨rfl, cmp_all.2, fun i o hi ho => ⟨rfl, rfl, fun i1 o1 hi1 ho1 => u8_eqv (cmpD_all (cmpN_hlf hi) hi1)⟩⟩, trivial⟩, i64_eqv cmp_all.1, trivial⟩

end Go.Proofs.Ytifoncmlelinjaa
