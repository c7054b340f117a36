/- N: walks on abstract states. -/
import Derived.Test.YthfnmooeijneoaaM
set_option linter.unusedVariables false
set_option linter.unusedSimpArgs false
namespace Go.Proofs.Ythfnmooeijneoaa
open Go.RowKit Go.Sea
attribute [local go_sem] callK_N gf gk gdrop lkL setL lsF ltAll rdyL bodyF roundQ roundS loopQ loopS jumpOf inLs yV yA bAV zipPut purgeG List.tail_cons Option.isNone_none Option.isNone_some callGK_f callDK_f callDGK_f retN retHN blockA arun_nil arun_plain arun_guard plainF guardF guardB arunD_nil arunD_plain arunD_guard plainDF guardDF guardDB AS.ent Eff.noApp Eff.tgt ftF AV.refs TV.refs CV.refs LV.refs Op.operands Call.operands List.append_toArray List.push_toArray List.flatMap_cons List.flatMap_nil List.toList_toArray Option.toArray List.reverse_cons List.reverse_nil opF AS.ev constA lk AS.get AV.tv AV.nd AS.eff AS.put argEnv PT.tv PV.av AV.mbOf hset hget TV.cells dstOk thenA gB isB toB TV.bool? TV.int? intF loadF storeF fieldF indexF lenF sliceF optI appF minmaxF ipCells fillF repC partsF lvsF TV.lv LV.tv purgeE purgeC purgeH AV.purge CV.purge AV.has TV.has CV.has LV.has calleeF argsF tvsF toPT toIV toIVs toPTs toPV civ isIv iA bA List.map_cons List.map_nil List.length_nil List.length_cons List.getElem?_cons_zero List.getElem?_cons_succ List.getElem?_nil Option.getD_some Option.getD_none Option.bind_some Option.bind_none List.take_succ_cons List.take_zero List.drop_succ_cons List.drop_zero List.take_nil List.drop_nil List.cons_append List.nil_append List.append_nil List.getD_cons_zero List.getD_cons_succ Option.map_some Option.map_none Option.isSome_some Option.isSome_none List.size_toArray List.any_cons List.any_nil List.mem_cons if_true if_false ite_true ite_false cond_true cond_false Nat.zero_add Nat.add_zero Nat.sub_zero Nat.le_refl Nat.zero_mul Nat.mul_zero Nat.one_mul Nat.mul_one Int.toNat_zero Int.toNat_natCast Bool.or_false Bool.false_or Bool.or_true Bool.true_or Bool.and_true Bool.true_and Bool.and_false Bool.false_and beq_self_eq_true beq_true beq_false Bool.not_true Bool.not_false and_true true_and and_false false_and and_self imp_self Bool.cond_false_right Bool.cond_true_left implies_true forall_const true_implies false_implies Option.some.injEq Prod.mk.injEq ne_eq not_false_eq_true not_true_eq_false eq_self Nat.lt_irrefl Nat.not_lt_zero boF seaMin seaMax seaNat1 seaNat2 Value.bool.injEq Value.int.injEq srcF lstC TV.dp IV.eqv PT.eqv PV.eqv All2 keepE hupd resF tupA inlQ okL okGL okG nextL wkH wkC wkV nilA nilC AV.ok TV.ok CV.ok LV.ok okB forall_eq_or_imp forall_eq List.not_mem_nil List.mem_singleton true_or or_true or_false false_or exists_prop AV.t.injEq TV.one.injEq CV.iv.injEq IV.g.injEq TV.agg.injEq List.cons.injEq
theorem bo_4 : boD Try.prog 4 = true := by kernel_rfl
theorem fnok_31 : fnOk Try.prog 31 = true := by kernel_rfl

theorem kE_0i {d m : Int} {q : Nat} {sq : Nat → Int} {v : Int} (h : kE d m q sq v = 0) : kval d m q sq = true ∧ 0 ≤ v ∧ v ≤ 2000 ∧ v ≤ 100 * (q : Int) := by
  rcases kE_c d m q sq v with ⟨_, e⟩ | ⟨h1, h2, h3, h4, h5, h6, e⟩ | ⟨h1, h2, h3, h4, h5, h6, e⟩
  · omega
  · omega
  · exact ⟨h1, h3, h4, h6⟩
theorem needs_law {d m d' m' : Int} {q q' : Nat} {sq sq' : Nat → Int} {v w : Int} (h1 : kE d m q sq v = 0) (h2 : kE d' m' q' sq' w = 0) (hvw : v ≤ w) (hd : d ≤ d') (hm : m ≤ m') (hq : q ≤ q') (hs : ∀ i, i < q → sq i ≤ sq' i) :
    kN d m q sq v ≤ kN d' m' q' sq' w ∧ d ≤ kN d m q sq v := by
  obtain ⟨a1, a2, a3, a4⟩ := kE_0i h1
  obtain ⟨b1, b2, b3, b4⟩ := kE_0i h2
  unfold kN
  rw [if_pos h1, if_pos h2]
  have K := kval_kv a1
  have K' := kval_kv b1
  have m1 := need_mono b1 a2 hvw b4
  have c := (needV_bd a1 a2 a4).2.2
  refine ⟨Int.le_trans ?_ m1, c⟩
  unfold needV
  split
  · omega
  · have i := need_ix (q := q) (v := v) (by omega) a4
    have := hs ((v - 1) / 100).toNat (by omega)
    omega

set_option maxRecDepth 100000 in
set_option maxHeartbeats 4000000 in
theorem law6 (d m : Int) (q : Nat) (sq : Nat → Int) (d' m' : Int) (q' : Nat) (sq' : Nat → Int) (v w : Int) (hq : q ≤ 9223372036854775807) : CallsP Try.prog 6 [shipP d m q sq, shipP d' m' q' sq', .one (.g (.int .i64 (v))), .one (.g (.int .i64 (w)))] (.t (.one (.g (.bool true)))) := by
  refine CallsP_of Try.func6 rfl (by rw [Try.ntmps6]; simp) ?_
  simp only [Try.ntmps6, List.map_cons, List.map_nil, PT.tv, argEnv, Nat.zero_add, Nat.reduceAdd]
  repeat' (first
    | (with_reducible refine AW_seq_k fun K hK => ?_)
    | ((first | (with_reducible refine And.intro ?_ ?_) | (with_reducible refine Need.mk ?_)); focus (first | exact True.intro | (with_reducible assumption) | omega | (refine ⟨?_, ?_⟩ <;> omega) | (intro _; first | exact True.intro | (with_reducible assumption) | omega) | (intros; (repeat' (first | exact True.intro | omega | (with_reducible assumption) | (with_reducible refine And.intro ?_ ?_))); done) | (simp (disch := omega) only [Bool.and_eq_true, Bool.or_eq_true, decide_eq_true_eq, bne_iff_ne, ne_eq] at *; first | done | omega | (intros; omega)) | (simp; done) | (simp; omega) | (simp +contextual; done) | (intros; simp_all; done)))
    | (with_reducible refine AW_skip ?_)
    | (with_reducible refine AW_exit ?_)
    | (with_reducible refine AW_ret ?_)
    | (with_reducible refine retK_n ?_)
    | (with_reducible refine retK_n' ?_)
    | (with_reducible refine retH_n rfl rfl rfl ?_)
    | (with_reducible refine retH_n' rfl rfl rfl ?_)
    | (with_reducible refine AW_condI ?_)
    | (with_reducible refine AW_block ?_)
    | ((with_reducible refine condN_t ?_ ?_) <;> (intro hc; (try simp only [Bool.and_eq_true, Bool.or_eq_true, Bool.not_eq_true', Bool.and_eq_false_iff, Bool.or_eq_false_iff, decide_eq_true_eq, decide_eq_false_iff_not, bne_iff_ne, beq_iff_eq, reduceCtorEq, bne_eq_false_iff_eq, beq_eq_false_iff_ne, Bool.not_eq_false', Int.not_le, Int.not_lt, Bool.not_not] at hc); (try (exfalso; first | contradiction | omega))))
    | (with_reducible refine AW_regionP 0 [0, 1, 2, 3] ?_)
    | (with_reducible refine AW_regionP 1 [2, 3, 4, 5] ?_)
    | (with_reducible refine AW_regionP 2 [2, 3, 4, 5, 9] ?_)
    | (with_reducible refine AW_regionP 3 [2, 3, 4, 5, 9, 10, 11] ?_)
    | (with_reducible refine AW_regionP 4 [2, 3, 4, 5, 9, 10, 11, 12, 13] ?_)
    | (with_reducible refine AW_regionP 5 [9] ?_)
    | (with_reducible refine AW_regionP 6 [4, 5, 9, 10, 12] ?_)
    | (with_reducible refine AW_regionP 7 [4, 5, 9, 10, 12, 65, 66] ?_)
    | (with_reducible refine AW_regionP 8 [4, 5, 9, 10, 12, 65, 66] ?_)
    | ((with_reducible refine AW_prune (c := Code.region 9 _ true) [4, 5, 9, 10, 12, 14, 65, 66] ?_); (with_reducible refine AW_regionD ?_ ?_ ?_ ?_); (focus kernel_rfl); (focus kernel_rfl); (focus kernel_rfl))
    | (with_reducible refine AW_regionP 10 [9] ?_)
    | (with_reducible refine AW_regionP 11 [4, 5, 9, 10, 12, 65, 66] ?_)
    | (with_reducible refine AW_regionP 12 [4, 9, 10, 12] ?_)
    | ((with_reducible refine And.intro ?_ ?_); focus ((with_reducible show chkR _ _ _ = true); kernel_rfl))
    | (refine callN_q (k := 31) fnok_31 (head_p) ?_ ?_)
    | (refine callN_q (k := 34) fnok_34 (kneed_p _ _ _ _ _) ?_ ?_)
    | ((with_reducible refine AW_loopQ (c := (Code.seq (Code.region 7 _ _) _)) (ι := Nat) [4, 5, 9, 10, 12, 65] (fun k => [(66, iA .i64 (k : Int))]) (fun k => []) (fun k => k ≤ q ∧ (∀ i, i < k → sq i ≤ sq' i)) (fun k => q - k) 0 ?lg ?l1 ?l2 ?li ?lr); (case' lg => rintro k _); (case' li => try (exact ⟨Nat.zero_le _, fun i hi => absurd hi (Nat.not_lt_zero _)⟩)); (case' lr => rintro k ⟨h1, h2⟩ KR hR7; skip; simp only [keepE, hupd, hset, lk, if_true, if_false, Nat.reduceEqDiff, reduceIte, List.cons_append, List.nil_append, sqF0]))
    | ((with_reducible refine hR7 _ (k + 1) ?_); (try clear hR7 KR))
    | ((with_reducible refine Told.mk ?_); simp only [go_sem, reduceIte, reduceCtorEq, Nat.reduceAdd, Nat.reduceLT, Nat.reduceLeDiff, Nat.reduceEqDiff, Nat.reduceMul, Nat.reduceSub, Nat.reduceBEq, sqF0] <;> (first | exact True.intro | (((try simp (disch := omega) only [seaWrap, Int.natCast_add, Int.cast_ofNat_Int, and_true, true_and, and_self]); (repeat' (first | exact True.intro | omega | (with_reducible assumption) | (with_reducible refine And.intro ?_ ?_) | (exact all_succ (by assumption) (by assumption)))); done)) | (refine Stuck.out ?_)))
    | ((fail_if_success (with_reducible show AW _ _ _ _)); simp (maxSteps := 2000000) only [go_sem, reduceIte, reduceCtorEq, Nat.reduceAdd, Nat.reduceLT, Nat.reduceLeDiff, Nat.reduceEqDiff, Nat.reduceMul, Nat.reduceSub, Nat.reduceBEq, Try.f6, fnok_31, ty_45, fnok_34, of_45_0, ty_3, of_45_1, of_45_2, ty_43, le_43, sl_43, ar_43, sqF0])
    | ((fail_if_success (with_reducible show AW _ _ _ _)); simp (disch := omega) only [seaWrap, seaDiv, seaMod])
    | ((with_reducible refine hK _ ?_); clear hK K)
    | (with_reducible apply_assumption -exfalso))
  all_goals
    have h := needs_law (d := d) (m := m) (q := q) (sq := sq) (d' := d') (m' := m') (q' := q') (sq' := sq') (v := v) (w := w) (by omega) (by omega) (by omega) (by omega) (by omega) (by omega) (fun i hi => h2 i (by omega))
    simp [h.1, h.2]

theorem kN_w {d m : Int} {q : Nat} {sq : Nat → Int} (hk : kval d m q sq = true) {v : Int} (h0 : 0 ≤ v) (h1 : v ≤ 100 * q) : kN d m q sq v = needV d m sq v := by
  have K := kval_kv hk
  have := K.q1
  unfold kN
  rw [kE_0 ⟨hk, decide_eq_true (by omega)⟩ h1, if_pos rfl]
theorem cut_ex {P : Nat → Prop} [DecidablePred P] : ∀ n : Nat, (∀ a b, a ≤ b → b < n → P b → P a) → ∃ i, i ≤ n ∧ (∀ v, v < i → P v) ∧ (∀ v, i ≤ v → v < n → ¬ P v)
  | 0, _ => ⟨0, Nat.le_refl _, fun v hv => absurd hv (Nat.not_lt_zero _), fun v _ hv => absurd hv (Nat.not_lt_zero _)⟩
  | n + 1, h => by
    by_cases hp : P n
    · exact ⟨n + 1, Nat.le_refl _, fun v hv => h v n (by omega) (by omega) hp, fun v h1 h2 => by omega⟩
    · obtain ⟨i, h1, h2, h3⟩ := cut_ex n (fun a b hab hb => h a b hab (by omega))
      refine ⟨i, by omega, h2, fun v hv hn => ?_⟩
      by_cases e : v = n
      · subst e; exact hp
      · exact h3 v hv (by omega)
theorem fC_spec {d m : Int} {q : Nat} {sq : Nat → Int} (hk : kval d m q sq = true) (hd : Int) : fC d m q sq hd ≤ 100 * q + 1 ∧ ∀ v : Int, 0 ≤ v → v ≤ 100 * q → (needV d m sq v ≤ hd ↔ v < fC d m q sq hd) := by
  obtain ⟨i, h1, h2, h3⟩ := cut_ex (P := fun v : Nat => needV d m sq (v : Int) ≤ hd) (100 * q + 1) (fun a b hab hb h => Int.le_trans (need_mono hk (by omega) (by omega) (by omega)) h)
  have e := fC_eq (d := d) (m := m) (q := q) (sq := sq) (hd := hd) h1 h2 (fun v hv hq => by have := h3 v hv (by omega); omega)
  rw [e]
  refine ⟨h1, fun v v0 v1 => ?_⟩
  obtain ⟨u, rfl⟩ : ∃ u : Nat, v = u := ⟨v.toNat, by omega⟩
  by_cases h : u < i
  · exact ⟨fun _ => by omega, fun _ => h2 u h⟩
  · exact ⟨fun h' => absurd h' (h3 u (by omega) (by omega)), fun h' => by omega⟩
theorem fE_c (d m : Int) (q : Nat) (sq : Nat → Int) (h x : Int) : fE d m q sq h x = 1 ∨ (kval d m q sq = true ∧ (0 ≤ x ∧ x ≤ 100000 ∧ -100000 ≤ h ∧ h ≤ 100000) ∧ ((fC d m q sq (h + x) = 0 ∧ fE d m q sq h x = 4 ∧ fV d m q sq h x = 0) ∨ (0 < fC d m q sq (h + x) ∧ fE d m q sq h x = 0 ∧ fV d m q sq h x = (fC d m q sq (h + x) : Int) - 1))) := by
  unfold fV fE
  by_cases c : kval d m q sq = true ∧ isDp x = true ∧ -100000 ≤ h ∧ h ≤ 100000
  · have b := isDp_bd c.2.1
    refine Or.inr ⟨c.1, ⟨b.1, b.2, c.2.2.1, c.2.2.2⟩, ?_⟩
    simp only [c, and_self, if_true]
    by_cases z : fC d m q sq (h + x) = 0
    · simp [z]
    · simp [z]; omega
  · exact Or.inl (by rw [if_neg c])

theorem fast_law (d m : Int) (q : Nat) (sq : Nat → Int) (h x v : Int) (h1 : kE d m q sq v = 0) (h2 : fE d m q sq h x ≠ 1) : IntKind.i64.wrap (h + x) = h + x ∧ (fE d m q sq h x ≠ 0 → fE d m q sq h x = 4 ∧ h + x < kN d m q sq v) ∧ (fE d m q sq h x = 0 → 0 ≤ fV d m q sq h x ∧ fV d m q sq h x ≤ 100 * (q : Int) ∧ (kN d m q sq v ≤ h + x ↔ v ≤ fV d m q sq h x)) := by
  obtain ⟨a1, a2, a3, a4⟩ := kE_0i h1
  rcases fE_c d m q sq h x with e | ⟨b1, b2, b3⟩
  · exact absurd e h2
  · refine ⟨seaWrap (by omega) (by omega), ?_⟩
    obtain ⟨c1, c2⟩ := fC_spec b1 (h + x)
    have c3 := c2 v a2 a4
    rw [kN_w b1 a2 a4]
    rcases b3 with ⟨e1, e2, e3⟩ | ⟨e1, e2, e3⟩
    · rw [e2, e3]; rw [e1] at c3
      exact ⟨fun _ => ⟨rfl, by omega⟩, fun h => by omega⟩
    · rw [e2, e3]
      exact ⟨fun h => absurd rfl h, fun _ => ⟨by omega, by omega, by rw [c3]; omega⟩⟩
theorem fE_in (d m : Int) (q : Nat) (sq : Nat → Int) (h x : Int) : fE d m q sq h x = 0 ∨ fE d m q sq h x = 4 ∨ fE d m q sq h x = 1 := by
  rcases fE_c d m q sq h x with e | ⟨_, _, ⟨_, e, _⟩ | ⟨_, e, _⟩⟩ <;> omega

theorem law9_a (d m : Int) (q : Nat) (sq : Nat → Int) (h x : Int) : (fE d m q sq h x == 0 || fE d m q sq h x == 4 || fE d m q sq h x == 1) = true := by
  rcases fE_in d m q sq h x with e | e | e <;> rw [e] <;> rfl
theorem law9_b (d m : Int) (q : Nat) (sq : Nat → Int) (h x v : Int) (h1 : fE d m q sq h x ≠ 1 ∧ kE d m q sq v = 0) (h2 : fE d m q sq h x ≠ 0) : (fE d m q sq h x == 4 && decide (kN d m q sq v > IntKind.i64.wrap (h + x))) = true := by
  obtain ⟨z1, z2, z3⟩ := fast_law d m q sq h x v h1.2 h1.1
  obtain ⟨y1, y2⟩ := z2 h2
  rw [z1, y1]
  simp only [beq_self_eq_true, Bool.true_and, decide_eq_true_eq]; exact y2
theorem law9_c (d m : Int) (q : Nat) (sq : Nat → Int) (h x v : Int) (h1 : fE d m q sq h x ≠ 1 ∧ kE d m q sq v = 0) (h2 : fE d m q sq h x = 0) : (decide (fV d m q sq h x ≥ 0) && decide (fV d m q sq h x ≤ IntKind.i64.wrap (100 * (q : Int))) && (decide (kN d m q sq v ≤ IntKind.i64.wrap (h + x)) == decide (v ≤ fV d m q sq h x))) = true := by
  obtain ⟨z1, z2, z3⟩ := fast_law d m q sq h x v h1.2 h1.1
  obtain ⟨y1, y2, y3⟩ := z3 h2
  have qb := (kval_kv (kE_0i h1.2).1).q1
  rw [z1, seaWrap (n := 100 * (q : Int)) (by omega) (by omega)]
  simp only [Bool.and_eq_true, decide_eq_true_eq, beq_iff_eq]
  exact ⟨⟨y1, y2⟩, decide_eq_decide.2 y3⟩

set_option maxRecDepth 100000 in
set_option maxHeartbeats 4000000 in
theorem law9 (d m : Int) (q : Nat) (sq : Nat → Int) (h x v : Int) : CallsP Try.prog 9 [shipP d m q sq, .one (.g (.int .i64 (h))), .one (.g (.int .i64 (x))), .one (.g (.int .i64 (v)))] (.t (.one (.g (.bool true)))) := by
  refine CallsP_of Try.func9 rfl (by rw [Try.ntmps9]; simp) ?_
  simp only [Try.ntmps9, List.map_cons, List.map_nil, PT.tv, argEnv, Nat.zero_add, Nat.reduceAdd]
  repeat' (first
    | (with_reducible refine AW_seq_k fun K hK => ?_)
    | ((first | (with_reducible refine And.intro ?_ ?_) | (with_reducible refine Need.mk ?_)); focus (first | exact True.intro | (with_reducible assumption) | omega | (refine ⟨?_, ?_⟩ <;> omega) | (intro _; first | exact True.intro | (with_reducible assumption) | omega) | (intros; (repeat' (first | exact True.intro | omega | (with_reducible assumption) | (with_reducible refine And.intro ?_ ?_))); done) | (simp (disch := omega) only [Bool.and_eq_true, Bool.or_eq_true, decide_eq_true_eq, bne_iff_ne, ne_eq] at *; first | done | omega | (intros; omega)) | (simp; done) | (simp; omega) | (simp +contextual; done) | (intros; simp_all; done)))
    | (with_reducible refine AW_skip ?_)
    | (with_reducible refine AW_exit ?_)
    | (with_reducible refine AW_ret ?_)
    | (with_reducible refine retK_n ?_)
    | (with_reducible refine retK_n' ?_)
    | (with_reducible refine retH_n rfl rfl rfl ?_)
    | (with_reducible refine retH_n' rfl rfl rfl ?_)
    | (with_reducible refine AW_condI ?_)
    | (with_reducible refine AW_block ?_)
    | ((with_reducible refine condN_t ?_ ?_) <;> (intro hc; (try simp only [Bool.and_eq_true, Bool.or_eq_true, Bool.not_eq_true', Bool.and_eq_false_iff, Bool.or_eq_false_iff, decide_eq_true_eq, decide_eq_false_iff_not, bne_iff_ne, beq_iff_eq, reduceCtorEq, bne_eq_false_iff_eq, beq_eq_false_iff_ne, Bool.not_eq_false', Int.not_le, Int.not_lt, Bool.not_not] at hc); (try (exfalso; first | contradiction | omega))))
    | (with_reducible refine AW_regionP 0 [0, 1, 2, 3] ?_)
    | (with_reducible refine AW_regionP 1 [1, 2, 3, 4] ?_)
    | (with_reducible refine AW_regionP 2 [1, 2, 3, 4, 9] ?_)
    | (with_reducible refine AW_regionP 3 [1, 2, 3, 4, 9, 10, 11] ?_)
    | (with_reducible refine AW_regionP 4 [1, 2, 3, 4, 9, 10, 11, 12, 13] ?_)
    | (with_reducible refine AW_regionP 5 [9, 11] ?_)
    | (with_reducible refine AW_regionP 6 [1, 2, 3, 4, 9, 10, 11, 12] ?_)
    | (with_reducible refine AW_regionP 7 [1, 2, 9, 11, 12] ?_)
    | (with_reducible refine AW_regionP 8 [1, 2, 3, 4, 9, 10, 12] ?_)
    | (refine callN_q (k := 31) fnok_31 (head_p) ?_ ?_)
    | (refine callN_q (k := 34) fnok_34 (kneed_p _ _ _ _ _) ?_ ?_)
    | (refine callN_q (k := 40) fnok_40 (fast_p _ _ _ _ _ _) ?_ ?_)
    | ((fail_if_success (with_reducible show AW _ _ _ _)); simp (maxSteps := 2000000) only [go_sem, reduceIte, reduceCtorEq, Nat.reduceAdd, Nat.reduceLT, Nat.reduceLeDiff, Nat.reduceEqDiff, Nat.reduceMul, Nat.reduceSub, Nat.reduceBEq, Try.f9, fnok_31, ty_45, fnok_40, fnok_34, of_45_2, ty_43, le_43, bo_4])
    | ((fail_if_success (with_reducible show AW _ _ _ _)); simp (disch := omega) only [seaWrap, seaDiv, seaMod])
    | ((with_reducible refine hK _ ?_); clear hK K))
  all_goals first | exact law9_a d m q sq h x | exact law9_b d m q sq h x v (by assumption) (by assumption) | exact law9_c d m q sq h x v (by assumption) (by assumption)

end Go.Proofs.Ythfnmooeijneoaa
