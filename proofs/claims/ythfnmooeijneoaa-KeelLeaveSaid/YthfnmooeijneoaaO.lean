/- O: walks on abstract states. -/
import Derived.Test.YthfnmooeijneoaaN
set_option linter.unusedVariables false
set_option linter.unusedSimpArgs false
namespace Go.Proofs.Ythfnmooeijneoaa
open Go.RowKit Go.Sea
attribute [local go_sem] callK_N gf gk gdrop lkL setL lsF ltAll rdyL bodyF roundQ roundS loopQ loopS jumpOf inLs yV yA bAV zipPut purgeG List.tail_cons Option.isNone_none Option.isNone_some callGK_f callDK_f callDGK_f retN retHN blockA arun_nil arun_plain arun_guard plainF guardF guardB arunD_nil arunD_plain arunD_guard plainDF guardDF guardDB AS.ent Eff.noApp Eff.tgt ftF AV.refs TV.refs CV.refs LV.refs Op.operands Call.operands List.append_toArray List.push_toArray List.flatMap_cons List.flatMap_nil List.toList_toArray Option.toArray List.reverse_cons List.reverse_nil opF AS.ev constA lk AS.get AV.tv AV.nd AS.eff AS.put argEnv PT.tv PV.av AV.mbOf hset hget TV.cells dstOk thenA gB isB toB TV.bool? TV.int? intF loadF storeF fieldF indexF lenF sliceF optI appF minmaxF ipCells fillF repC partsF lvsF TV.lv LV.tv purgeE purgeC purgeH AV.purge CV.purge AV.has TV.has CV.has LV.has calleeF argsF tvsF toPT toIV toIVs toPTs toPV civ isIv iA bA List.map_cons List.map_nil List.length_nil List.length_cons List.getElem?_cons_zero List.getElem?_cons_succ List.getElem?_nil Option.getD_some Option.getD_none Option.bind_some Option.bind_none List.take_succ_cons List.take_zero List.drop_succ_cons List.drop_zero List.take_nil List.drop_nil List.cons_append List.nil_append List.append_nil List.getD_cons_zero List.getD_cons_succ Option.map_some Option.map_none Option.isSome_some Option.isSome_none List.size_toArray List.any_cons List.any_nil List.mem_cons if_true if_false ite_true ite_false cond_true cond_false Nat.zero_add Nat.add_zero Nat.sub_zero Nat.le_refl Nat.zero_mul Nat.mul_zero Nat.one_mul Nat.mul_one Int.toNat_zero Int.toNat_natCast Bool.or_false Bool.false_or Bool.or_true Bool.true_or Bool.and_true Bool.true_and Bool.and_false Bool.false_and beq_self_eq_true beq_true beq_false Bool.not_true Bool.not_false and_true true_and and_false false_and and_self imp_self Bool.cond_false_right Bool.cond_true_left implies_true forall_const true_implies false_implies Option.some.injEq Prod.mk.injEq ne_eq not_false_eq_true not_true_eq_false eq_self Nat.lt_irrefl Nat.not_lt_zero boF seaMin seaMax seaNat1 seaNat2 Value.bool.injEq Value.int.injEq srcF lstC TV.dp IV.eqv PT.eqv PV.eqv All2 keepE hupd resF tupA inlQ okL okGL okG nextL wkH wkC wkV nilA nilC AV.ok TV.ok CV.ok LV.ok okB forall_eq_or_imp forall_eq List.not_mem_nil List.mem_singleton true_or or_true or_false false_or exists_prop AV.t.injEq TV.one.injEq CV.iv.injEq IV.g.injEq TV.agg.injEq List.cons.injEq
theorem fnok_14 : fnOk Try.prog 14 = true := by kernel_rfl
theorem fnok_46 : fnOk Try.prog 46 = true := by kernel_rfl
theorem ty_57 : tyD Try.prog 57 = some (false, 1) := by kernel_rfl

theorem dE_t (d m : Int) (q : Nat) (sq : Nat → Int) (s st : Int) (n : Nat) (lo hi : Nat → Int) (x v f u : Int) (h : isDp x = true) : dE d m q sq s st n lo hi x v f u = lE d m q sq v s st n lo hi f u ∧ dB d m q sq s st n lo hi x v f u = (decide (lE d m q sq v s st n lo hi f u = 0) && decide (lN d m q sq v s st n lo hi f u ≤ x)) := by
  simp [dE, dB, h]
theorem lE_0i {d m : Int} {q : Nat} {sq : Nat → Int} {v s st : Int} {n : Nat} {lo hi : Nat → Int} {f u : Int} (h : lE d m q sq v s st n lo hi f u = 0) : kval d m q sq = true ∧ (0 ≤ v ∧ v ≤ 2000 ∧ v ≤ 100 * (q : Int)) ∧ kE d m q sq v = 0 ∧ HE s st n lo hi f u = 0 ∧ lN d m q sq v s st n lo hi f u = needV d m sq v - HL s st n lo hi f u := by
  have e : kE d m q sq v = 0 ∧ HE s st n lo hi f u = 0 := by
    unfold lE at h
    rcases kE_c d m q sq v with ⟨_, e⟩ | ⟨h1, h2, h3, h4, h5, h6, e⟩ | ⟨h1, h2, h3, h4, h5, h6, e⟩
    · rw [e] at h; simp at h
    · rw [e] at h
      split at h
      · omega
      · simp at h
    · rw [e] at h
      split at h
      · omega
      · exact ⟨e, by simpa using h⟩
  obtain ⟨a1, a2, a3, a4⟩ := kE_0i e.1
  exact ⟨a1, ⟨a2, a3, a4⟩, e.1, e.2, by rw [lN, if_pos h]⟩
theorem dE_0i {d m : Int} {q : Nat} {sq : Nat → Int} {s st : Int} {n : Nat} {lo hi : Nat → Int} {x v f u : Int} (h : dE d m q sq s st n lo hi x v f u = 0) : isDp x = true ∧ lE d m q sq v s st n lo hi f u = 0 := by
  unfold dE at h
  split at h
  · rename_i hx; exact ⟨hx, h⟩
  · omega
theorem least_law (d m : Int) (q : Nat) (sq : Nat → Int) (s st : Int) (n : Nat) (lo hi : Nat → Int) (x v f u : Int) (hx : isDp x = true) : lE d m q sq v s st n lo hi f u = dE d m q sq s st n lo hi x v f u ∧ (lE d m q sq v s st n lo hi f u ≠ 0 ∨ (dB d m q sq s st n lo hi x v f u = decide (max (lN d m q sq v s st n lo hi f u) 0 ≤ x))) := by
  obtain ⟨e1, e2⟩ := dE_t d m q sq s st n lo hi x v f u hx
  refine ⟨e1.symm, ?_⟩
  by_cases h : lE d m q sq v s st n lo hi f u = 0
  · right
    have b := isDp_bd hx
    rw [e2, h]
    simp only [decide_true, Bool.true_and]
    exact decide_eq_decide.2 (by omega)
  · exact Or.inl h
theorem true_law (d m : Int) (q : Nat) (sq : Nat → Int) (s st : Int) (n : Nat) (lo hi : Nat → Int) (x v f u t h more : Int) (h1 : dE d m q sq s st n lo hi x v f u = 0) (h2 : HE s st n lo hi t t = 0) (h3 : dB d m q sq s st n lo hi x v f u = true) (h4 : f ≤ t) (h5 : t ≤ u) (h6 : HL s st n lo hi t t ≤ h) (h7 : h ≤ HH s st n lo hi t t) (m0 : 0 ≤ more) (m1 : more ≤ 65535) :
    kE d m q sq v = 0 ∧ IntKind.i64.wrap (IntKind.i64.wrap (x + more) + h) = x + more + h ∧ IntKind.i64.wrap (x + more) = x + more ∧ kN d m q sq v ≤ x + more + h := by
  obtain ⟨hx, hl⟩ := dE_0i h1
  obtain ⟨a1, ⟨a2, a3, a4⟩, a5, a6, a7⟩ := lE_0i hl
  have e := (dE_t d m q sq s st n lo hi x v f u hx).2
  rw [e] at h3
  simp only [Bool.and_eq_true, decide_eq_true_eq] at h3
  have b := isDp_bd hx
  have c := hl_bd (s := s) (st := st) (n := n) (lo := lo) (hi := hi) (f := t) (u := t)
  obtain ⟨_, _, hm, _, _⟩ := he_ok a6
  obtain ⟨_, _, hm', _, _⟩ := he_ok h2
  obtain ⟨w, w1, w2, w3⟩ := hm'.2
  obtain rfl : w = t := by omega
  have := hm.1 w h4 h5
  rw [seaWrap (n := x + more) (by omega) (by omega), seaWrap (by omega) (by omega)]
  refine ⟨a5, rfl, rfl, ?_⟩
  unfold kN; rw [if_pos a5]
  omega
theorem slow_law (d m : Int) (q : Nat) (sq : Nat → Int) (s st : Int) (n : Nat) (lo hi : Nat → Int) (x v f u less later sooner more : Int) (h1 : dE d m q sq s st n lo hi x v f u = 0) (h3 : dB d m q sq s st n lo hi x v f u = true) (h4 : 0 ≤ less) (h5 : less ≤ v) (h6 : f ≤ later) (h7 : later ≤ sooner) (h8 : sooner ≤ u) (m0 : 0 ≤ more) (m1 : x + more ≤ 100000) :
    dE d m q sq s st n lo hi (x + more) less later sooner = 0 ∧ dB d m q sq s st n lo hi (x + more) less later sooner = true := by
  obtain ⟨hx, hl⟩ := dE_0i h1
  obtain ⟨a1, ⟨a2, a3, a4⟩, a5, a6, a7⟩ := lE_0i hl
  have e := (dE_t d m q sq s st n lo hi x v f u hx).2
  rw [e] at h3
  simp only [Bool.and_eq_true, decide_eq_true_eq] at h3
  have b := isDp_bd hx
  have hx2 : isDp (x + more) = true := decide_eq_true (by omega)
  obtain ⟨tv, ⟨g1, g2, g3, g4, g5⟩, hm, hM, _⟩ := he_ok a6
  have hv := he_tv a6
  have he2 : HE s st n lo hi later sooner = 0 := he_in hv (by omega)
  have k2 : kE d m q sq less = 0 := kE_0 ⟨a1, decide_eq_true (by omega)⟩ (by omega)
  have l2 : lE d m q sq less s st n lo hi later sooner = 0 := by
    unfold lE; rw [k2, he2]; simp
  obtain ⟨_, _, _, _, n2⟩ := lE_0i l2
  obtain ⟨e1, e2⟩ := dE_t d m q sq s st n lo hi (x + more) less later sooner hx2
  rw [e1, e2, l2]
  refine ⟨rfl, ?_⟩
  simp only [decide_true, Bool.true_and, decide_eq_true_eq]
  rw [n2]
  have nm := need_mono a1 h4 h5 a4
  obtain ⟨_, _, hm2, _, _⟩ := he_ok he2
  obtain ⟨w, w1, w2, w3⟩ := hm2.2
  have := hm.1 w (by omega) (by omega)
  omega

theorem law8_a (d m : Int) (q : Nat) (sq : Nat → Int) (s st : Int) (n : Nat) (lo hi : Nat → Int) (x v f u t h more : Int) (m0 : 0 ≤ more) (m1 : more ≤ 65535) (hc : (((((dE d m q sq s st n lo hi x v f u = 0 ∧ HE s st n lo hi t t = 0) ∧ dB d m q sq s st n lo hi x v f u = true) ∧ f ≤ t) ∧ t ≤ u) ∧ HL s st n lo hi t t ≤ h) ∧ h ≤ HH s st n lo hi t t) :
    (kE d m q sq v == 0 && decide (IntKind.i64.wrap (IntKind.i64.wrap (x + more) + h) ≥ kN d m q sq v)) = true := by
  obtain ⟨⟨⟨⟨⟨⟨a1, a2⟩, a3⟩, a4⟩, a5⟩, a6⟩, a7⟩ := hc
  obtain ⟨z1, z2, z3, z4⟩ := true_law d m q sq s st n lo hi x v f u t h more a1 a2 a3 a4 a5 a6 a7 m0 m1
  rw [z1, z2]
  simp only [beq_self_eq_true, Bool.true_and, decide_eq_true_eq]; exact z4
theorem law12_a (d m : Int) (q : Nat) (sq : Nat → Int) (s st : Int) (n : Nat) (lo hi : Nat → Int) (x v f u less later sooner more : Int) (m0 : 0 ≤ more) (m1 : more ≤ 65535) (hc : ((((((dE d m q sq s st n lo hi x v f u = 0 ∧ dB d m q sq s st n lo hi x v f u = true) ∧ 0 ≤ less) ∧ less ≤ v) ∧ f ≤ later) ∧ later ≤ sooner) ∧ sooner ≤ u) ∧ IntKind.i64.wrap (x + more) ≤ 100000) :
    (dE d m q sq s st n lo hi (IntKind.i64.wrap (x + more)) less later sooner == 0 && dB d m q sq s st n lo hi (IntKind.i64.wrap (x + more)) less later sooner) = true := by
  obtain ⟨⟨⟨⟨⟨⟨⟨a1, a2⟩, a3⟩, a4⟩, a5⟩, a6⟩, a7⟩, a8⟩ := hc
  have b := isDp_bd (dE_0i a1).1
  rw [seaWrap (n := x + more) (by omega) (by omega)] at a8 ⊢
  obtain ⟨z1, z2⟩ := slow_law d m q sq s st n lo hi x v f u less later sooner more a1 a2 a3 a4 a5 a6 a7 m0 a8
  rw [z1, z2]; rfl

theorem law7_a (d m : Int) (q : Nat) (sq : Nat → Int) (s st : Int) (n : Nat) (lo hi : Nat → Int) (x v f u : Int) (hc : fewB st n = true ∧ isDp x = true) : (lE d m q sq v s st n lo hi f u == dE d m q sq s st n lo hi x v f u && (lE d m q sq v s st n lo hi f u != 0 || dB d m q sq s st n lo hi x v f u == decide (x ≥ max (lN d m q sq v s st n lo hi f u) 0) && decide (max (lN d m q sq v s st n lo hi f u) 0 ≥ 0))) = true := by
  obtain ⟨z1, z2⟩ := least_law d m q sq s st n lo hi x v f u hc.2
  rw [z1]
  simp only [beq_self_eq_true, Bool.true_and]
  by_cases h : dE d m q sq s st n lo hi x v f u = 0
  · rcases z2 with y | y
    · exact absurd h (z1 ▸ y)
    · rw [h, y]
      have e : decide (max (lN d m q sq v s st n lo hi f u) 0 ≥ 0) = true := decide_eq_true (by omega)
      rw [e]; simp
  · simp [h]

set_option maxRecDepth 100000 in
set_option maxHeartbeats 4000000 in
theorem law7 (d m : Int) (q : Nat) (sq : Nat → Int) (s st : Int) (n : Nat) (lo hi : Nat → Int) (x v f u : Int) : CallsP Try.prog 7 [shipP d m q sq, tideP s st n lo hi, .one (.g (.int .i64 (x))), .one (.g (.int .i64 (v))), .one (.g (.int .i64 (f))), .one (.g (.int .i64 (u)))] (.t (.one (.g (.bool true)))) := by
  refine CallsP_of Try.func7 rfl (by rw [Try.ntmps7]; simp) ?_
  simp only [Try.ntmps7, List.map_cons, List.map_nil, PT.tv, argEnv, Nat.zero_add, Nat.reduceAdd]
  repeat' (first
    | (with_reducible refine AW_seq_k fun K hK => ?_)
    | ((first | (with_reducible refine And.intro ?_ ?_) | (with_reducible refine Need.mk ?_)); focus (first | exact True.intro | (with_reducible assumption) | omega | (refine ⟨?_, ?_⟩ <;> omega) | (intro _; first | exact True.intro | (with_reducible assumption) | omega) | (intros; (repeat' (first | exact True.intro | omega | (with_reducible assumption) | (with_reducible refine And.intro ?_ ?_))); done) | (simp (disch := omega) only [Bool.and_eq_true, Bool.or_eq_true, decide_eq_true_eq, bne_iff_ne, ne_eq] at *; first | done | omega | (intros; omega)) | (simp; done) | (simp; omega) | (simp +contextual; done) | (intros; simp_all; done) | (simp +contextual; done) | (intros; simp_all; done) | (refine ⟨fun h1 => ⟨h1, fun h2 => by simp_all⟩, fun h1 => ⟨h1, fun h2 => by simp_all⟩⟩)))
    | (with_reducible refine AW_skip ?_)
    | (with_reducible refine AW_exit ?_)
    | (with_reducible refine AW_ret ?_)
    | (with_reducible refine retK_n ?_)
    | (with_reducible refine retK_n' ?_)
    | (with_reducible refine retH_n rfl rfl rfl ?_)
    | (with_reducible refine retH_n' rfl rfl rfl ?_)
    | (with_reducible refine AW_condI ?_)
    | (with_reducible refine AW_block ?_)
    | ((with_reducible refine condN_t ?_ ?_) <;> (intro hc; (try simp only [Bool.and_eq_true, Bool.or_eq_true, Bool.not_eq_true', Bool.and_eq_false_iff, Bool.or_eq_false_iff, decide_eq_true_eq, decide_eq_false_iff_not, bne_iff_ne, beq_iff_eq, reduceCtorEq, bne_eq_false_iff_eq, beq_eq_false_iff_ne, Bool.not_eq_false', Int.not_le, Int.not_lt, Bool.not_not] at hc); (try (exfalso; first | contradiction | omega))))
    | (with_reducible refine AW_regionP 0 [0, 1, 2, 3, 4, 5] ?_)
    | (with_reducible refine AW_regionP 1 [2, 3, 4, 5, 6, 7] ?_)
    | (with_reducible refine AW_regionP 2 [2, 3, 4, 5, 6, 7, 13] ?_)
    | (with_reducible refine AW_regionP 3 [13] ?_)
    | (with_reducible refine AW_regionP 4 [2, 3, 4, 5, 6, 7, 13] ?_)
    | (with_reducible refine AW_regionP 5 [2, 3, 4, 5, 6, 7, 13, 14, 15] ?_)
    | (with_reducible refine AW_regionP 6 [2, 13, 14, 15, 16, 17] ?_)
    | (refine callN_q (k := 31) fnok_31 (head_p) ?_ ?_)
    | (refine callN_q (k := 14) fnok_14 (few_p _ _ _ _ _) ?_ ?_)
    | (refine callGN_q (k := 46) fnok_46 (fun hg => rDepth_p _) ?_ ?_)
    | (refine callN_q (k := 38) fnok_38 (kleast_p _ _ _ _ _ _ _ _ _ _ _ _) ?_ ?_)
    | (refine callN_q (k := 36) fnok_36 (kdeep_p _ _ _ _ _ _ _ _ _ _ _ _ _) ?_ ?_)
    | ((fail_if_success (with_reducible show AW _ _ _ _)); simp (maxSteps := 2000000) only [go_sem, reduceIte, reduceCtorEq, Nat.reduceAdd, Nat.reduceLT, Nat.reduceLeDiff, Nat.reduceEqDiff, Nat.reduceMul, Nat.reduceSub, Nat.reduceBEq, Try.f7, fnok_31, ty_24, fnok_14, fnok_46, ty_45, fnok_38, fnok_36, bo_4])
    | ((with_reducible refine hK _ ?_); clear hK K))
  all_goals exact law7_a d m q sq s st n lo hi x v f u (by assumption)

set_option maxRecDepth 100000 in
set_option maxHeartbeats 4000000 in
theorem law8 (d m : Int) (q : Nat) (sq : Nat → Int) (s st : Int) (n : Nat) (lo hi : Nat → Int) (x v f u t h more : Int) (m0 : 0 ≤ more) (m1 : more ≤ 65535) : CallsP Try.prog 8 [shipP d m q sq, tideP s st n lo hi, .one (.g (.int .i64 (x))), .one (.g (.int .i64 (v))), .one (.g (.int .i64 (f))), .one (.g (.int .i64 (u))), .one (.g (.int .i64 (t))), .one (.g (.int .i64 (h))), .one (.g (.int .u16 more))] (.t (.one (.g (.bool true)))) := by
  refine CallsP_of Try.func8 rfl (by rw [Try.ntmps8]; simp) ?_
  simp only [Try.ntmps8, List.map_cons, List.map_nil, PT.tv, argEnv, Nat.zero_add, Nat.reduceAdd]
  repeat' (first
    | (with_reducible refine AW_seq_k fun K hK => ?_)
    | ((first | (with_reducible refine And.intro ?_ ?_) | (with_reducible refine Need.mk ?_)); focus (first | exact True.intro | (with_reducible assumption) | omega | (refine ⟨?_, ?_⟩ <;> omega) | (intro _; first | exact True.intro | (with_reducible assumption) | omega) | (intros; (repeat' (first | exact True.intro | omega | (with_reducible assumption) | (with_reducible refine And.intro ?_ ?_))); done) | (simp (disch := omega) only [Bool.and_eq_true, Bool.or_eq_true, decide_eq_true_eq, bne_iff_ne, ne_eq] at *; first | done | omega | (intros; omega)) | (simp; done) | (simp; omega) | (simp +contextual; done) | (intros; simp_all; done)))
    | (with_reducible refine AW_skip ?_)
    | (with_reducible refine AW_exit ?_)
    | (with_reducible refine AW_ret ?_)
    | (with_reducible refine retK_n ?_)
    | (with_reducible refine retK_n' ?_)
    | (with_reducible refine retH_n rfl rfl rfl ?_)
    | (with_reducible refine retH_n' rfl rfl rfl ?_)
    | (with_reducible refine AW_condI ?_)
    | (with_reducible refine AW_block ?_)
    | ((with_reducible refine condN_t ?_ ?_) <;> (intro hc; (try simp only [Bool.and_eq_true, Bool.or_eq_true, Bool.not_eq_true', Bool.and_eq_false_iff, Bool.or_eq_false_iff, decide_eq_true_eq, decide_eq_false_iff_not, bne_iff_ne, beq_iff_eq, reduceCtorEq, bne_eq_false_iff_eq, beq_eq_false_iff_ne, Bool.not_eq_false', Int.not_le, Int.not_lt, Bool.not_not] at hc); (try (exfalso; first | contradiction | omega))))
    | (with_reducible refine AW_regionP 0 [0, 1, 2, 3, 4, 5, 6, 7, 8] ?_)
    | (with_reducible refine AW_regionP 1 [2, 3, 4, 5, 6, 7, 8, 9, 10] ?_)
    | (with_reducible refine AW_regionP 2 [2, 3, 4, 5, 6, 7, 8, 9, 10, 19] ?_)
    | (with_reducible refine AW_regionP 3 [19] ?_)
    | (with_reducible refine AW_regionP 4 [2, 3, 4, 5, 6, 7, 8, 9, 10, 19] ?_)
    | (with_reducible refine AW_regionP 5 [2, 3, 4, 5, 6, 7, 8, 9, 10, 19, 20, 21] ?_)
    | (with_reducible refine AW_regionP 6 [2, 3, 4, 5, 6, 7, 8, 9, 19, 20, 21, 22, 23] ?_)
    | (with_reducible refine AW_regionP 7 [19] ?_)
    | (with_reducible refine AW_regionP 8 [2, 3, 7, 8, 9, 19] ?_)
    | (with_reducible refine AW_regionP 9 [2, 7, 8, 19, 24, 25] ?_)
    | (refine callN_q (k := 31) fnok_31 (head_p) ?_ ?_)
    | (refine callN_q (k := 14) fnok_14 (few_p _ _ _ _ _) ?_ ?_)
    | (refine callN_q (k := 36) fnok_36 (kdeep_p _ _ _ _ _ _ _ _ _ _ _ _ _) ?_ ?_)
    | (refine callN_q (k := 19) fnok_19 (height_p _ _ _ _ _ _ _) ?_ ?_)
    | (refine callN_q (k := 34) fnok_34 (kneed_p _ _ _ _ _) ?_ ?_)
    | ((fail_if_success (with_reducible show AW _ _ _ _)); simp (maxSteps := 2000000) only [go_sem, reduceIte, reduceCtorEq, Nat.reduceAdd, Nat.reduceLT, Nat.reduceLeDiff, Nat.reduceEqDiff, Nat.reduceMul, Nat.reduceSub, Nat.reduceBEq, Try.f8, fnok_31, ty_24, fnok_14, ty_45, fnok_36, fnok_19, zc_31, ty_31, of_31_0, ty_3, of_31_1, fnok_34, ty_57, in_3])
    | ((fail_if_success (with_reducible show AW _ _ _ _)); simp (disch := omega) only [seaWrap])
    | ((with_reducible refine hK _ ?_); clear hK K))
  all_goals exact law8_a d m q sq s st n lo hi x v f u t h more m0 m1 (by assumption)

set_option maxRecDepth 100000 in
set_option maxHeartbeats 4000000 in
theorem law12 (d m : Int) (q : Nat) (sq : Nat → Int) (s st : Int) (n : Nat) (lo hi : Nat → Int) (x v f u less later sooner more : Int) (m0 : 0 ≤ more) (m1 : more ≤ 65535) : CallsP Try.prog 12 [shipP d m q sq, tideP s st n lo hi, .one (.g (.int .i64 (x))), .one (.g (.int .i64 (v))), .one (.g (.int .i64 (f))), .one (.g (.int .i64 (u))), .one (.g (.int .i64 (less))), .one (.g (.int .i64 (later))), .one (.g (.int .i64 (sooner))), .one (.g (.int .u16 more))] (.t (.one (.g (.bool true)))) := by
  refine CallsP_of Try.func12 rfl (by rw [Try.ntmps12]; simp) ?_
  simp only [Try.ntmps12, List.map_cons, List.map_nil, PT.tv, argEnv, Nat.zero_add, Nat.reduceAdd]
  repeat' (first
    | (with_reducible refine AW_seq_k fun K hK => ?_)
    | ((first | (with_reducible refine And.intro ?_ ?_) | (with_reducible refine Need.mk ?_)); focus (first | exact True.intro | (with_reducible assumption) | omega | (refine ⟨?_, ?_⟩ <;> omega) | (intro _; first | exact True.intro | (with_reducible assumption) | omega) | (intros; (repeat' (first | exact True.intro | omega | (with_reducible assumption) | (with_reducible refine And.intro ?_ ?_))); done) | (simp (disch := omega) only [Bool.and_eq_true, Bool.or_eq_true, decide_eq_true_eq, bne_iff_ne, ne_eq] at *; first | done | omega | (intros; omega)) | (simp; done) | (simp; omega) | (simp +contextual; done) | (intros; simp_all; done)))
    | (with_reducible refine AW_skip ?_)
    | (with_reducible refine AW_exit ?_)
    | (with_reducible refine AW_ret ?_)
    | (with_reducible refine retK_n ?_)
    | (with_reducible refine retK_n' ?_)
    | (with_reducible refine retH_n rfl rfl rfl ?_)
    | (with_reducible refine retH_n' rfl rfl rfl ?_)
    | (with_reducible refine AW_condI ?_)
    | (with_reducible refine AW_block ?_)
    | ((with_reducible refine condN_t ?_ ?_) <;> (intro hc; (try simp only [Bool.and_eq_true, Bool.or_eq_true, Bool.not_eq_true', Bool.and_eq_false_iff, Bool.or_eq_false_iff, decide_eq_true_eq, decide_eq_false_iff_not, bne_iff_ne, beq_iff_eq, reduceCtorEq, bne_eq_false_iff_eq, beq_eq_false_iff_ne, Bool.not_eq_false', Int.not_le, Int.not_lt, Bool.not_not] at hc); (try (exfalso; first | contradiction | omega))))
    | (with_reducible refine AW_regionP 0 [0, 1, 2, 3, 4, 5, 6, 7, 8, 9] ?_)
    | (with_reducible refine AW_regionP 1 [2, 3, 4, 5, 6, 7, 8, 9, 10, 11] ?_)
    | (with_reducible refine AW_regionP 2 [2, 3, 4, 5, 6, 7, 8, 9, 10, 11, 21] ?_)
    | (with_reducible refine AW_regionP 3 [21] ?_)
    | (with_reducible refine AW_regionP 4 [2, 3, 4, 5, 6, 7, 8, 9, 10, 11, 21] ?_)
    | (with_reducible refine AW_regionP 5 [2, 3, 4, 5, 6, 7, 8, 9, 10, 11, 21, 22, 23] ?_)
    | (with_reducible refine AW_regionP 6 [21] ?_)
    | (with_reducible refine AW_regionP 7 [2, 6, 7, 8, 9, 10, 11, 21] ?_)
    | (with_reducible refine AW_regionP 8 [21, 24, 25] ?_)
    | (refine callN_q (k := 31) fnok_31 (head_p) ?_ ?_)
    | (refine callN_q (k := 14) fnok_14 (few_p _ _ _ _ _) ?_ ?_)
    | (refine callN_q (k := 36) fnok_36 (kdeep_p _ _ _ _ _ _ _ _ _ _ _ _ _) ?_ ?_)
    | ((fail_if_success (with_reducible show AW _ _ _ _)); simp (maxSteps := 2000000) only [go_sem, reduceIte, reduceCtorEq, Nat.reduceAdd, Nat.reduceLT, Nat.reduceLeDiff, Nat.reduceEqDiff, Nat.reduceMul, Nat.reduceSub, Nat.reduceBEq, Try.f12, fnok_31, ty_24, fnok_14, ty_45, fnok_36, ty_57, in_3])
    | ((fail_if_success (with_reducible show AW _ _ _ _)); simp (disch := omega) only [seaWrap])
    | ((with_reducible refine hK _ ?_); clear hK K))
  all_goals exact law12_a d m q sq s st n lo hi x v f u less later sooner more m0 m1 (by assumption)

end Go.Proofs.Ythfnmooeijneoaa
