/- Q: walks on abstract states. -/
import Derived.Test.YthfnmooeijneoaaO
set_option linter.unusedVariables false
set_option linter.unusedSimpArgs false
namespace Go.Proofs.Ythfnmooeijneoaa
open Go.RowKit Go.Sea
attribute [local go_sem] callK_N gf gk gdrop lkL setL lsF ltAll rdyL bodyF roundQ roundS loopQ loopS jumpOf inLs yV yA bAV zipPut purgeG List.tail_cons Option.isNone_none Option.isNone_some callGK_f callDK_f callDGK_f retN retHN blockA arun_nil arun_plain arun_guard plainF guardF guardB arunD_nil arunD_plain arunD_guard plainDF guardDF guardDB AS.ent Eff.noApp Eff.tgt ftF AV.refs TV.refs CV.refs LV.refs Op.operands Call.operands List.append_toArray List.push_toArray List.flatMap_cons List.flatMap_nil List.toList_toArray Option.toArray List.reverse_cons List.reverse_nil opF AS.ev constA lk AS.get AV.tv AV.nd AS.eff AS.put argEnv PT.tv PV.av AV.mbOf hset hget TV.cells dstOk thenA gB isB toB TV.bool? TV.int? intF loadF storeF fieldF indexF lenF sliceF optI appF minmaxF ipCells fillF repC partsF lvsF TV.lv LV.tv purgeE purgeC purgeH AV.purge CV.purge AV.has TV.has CV.has LV.has calleeF argsF tvsF toPT toIV toIVs toPTs toPV civ isIv iA bA List.map_cons List.map_nil List.length_nil List.length_cons List.getElem?_cons_zero List.getElem?_cons_succ List.getElem?_nil Option.getD_some Option.getD_none Option.bind_some Option.bind_none List.take_succ_cons List.take_zero List.drop_succ_cons List.drop_zero List.take_nil List.drop_nil List.cons_append List.nil_append List.append_nil List.getD_cons_zero List.getD_cons_succ Option.map_some Option.map_none Option.isSome_some Option.isSome_none List.size_toArray List.any_cons List.any_nil List.mem_cons if_true if_false ite_true ite_false cond_true cond_false Nat.zero_add Nat.add_zero Nat.sub_zero Nat.le_refl Nat.zero_mul Nat.mul_zero Nat.one_mul Nat.mul_one Int.toNat_zero Int.toNat_natCast Bool.or_false Bool.false_or Bool.or_true Bool.true_or Bool.and_true Bool.true_and Bool.and_false Bool.false_and beq_self_eq_true beq_true beq_false Bool.not_true Bool.not_false and_true true_and and_false false_and and_self imp_self Bool.cond_false_right Bool.cond_true_left implies_true forall_const true_implies false_implies Option.some.injEq Prod.mk.injEq ne_eq not_false_eq_true not_true_eq_false eq_self Nat.lt_irrefl Nat.not_lt_zero boF seaMin seaMax seaNat1 seaNat2 Value.bool.injEq Value.int.injEq srcF lstC TV.dp IV.eqv PT.eqv PV.eqv All2 keepE hupd resF tupA inlQ okL okGL okG nextL wkH wkC wkV nilA nilC AV.ok TV.ok CV.ok LV.ok okB forall_eq_or_imp forall_eq List.not_mem_nil List.mem_singleton true_or or_true or_false false_or exists_prop AV.t.injEq TV.one.injEq CV.iv.injEq IV.g.injEq TV.agg.injEq List.cons.injEq


theorem kWE_0i {d m : Int} {q : Nat} {sq : Nat → Int} {v dp s st : Int} {n : Nat} {lo hi : Nat → Int} (h : kWE d m q sq v dp s st n lo hi = 0) : kval d m q sq = true ∧ isDp dp = true ∧ tval s st n lo hi = true ∧ (0 ≤ v ∧ v ≤ 2000 ∧ v ≤ 100 * (q : Int)) ∧ kE d m q sq v = 0 ∧ nd (needV d m sq v - dp) = true ∧ kWS d m q sq v dp s st n lo hi = WS s st n lo hi (needV d m sq v - dp) := by
  unfold kWE at h
  rcases rE_c d m q sq v dp s st n lo hi with ⟨h0, e⟩ | ⟨h1, h2, h3, h4, ⟨h5, h6, h7, h8, h9⟩, ⟨h10, e⟩ | ⟨h10, e⟩⟩
  · rw [e] at h; simp at h
  · rw [e] at h; simp at h
  · have b := needV_bd h1 h5 h10
    exact ⟨h1, h3, h4, ⟨h5, h6, h10⟩, kE_0 ⟨h1, h2⟩ h10, decide_eq_true (by omega), by rw [kWS, if_pos e]⟩
theorem win_round {s st : Int} {n : Nat} {lo hi : Nat → Int} {need : Int} (hv : tval s st n lo hi = true) (hn : nd need = true) (k : Nat) : (WS s st n lo hi need).length ≤ k ∨ ((k < (WS s st n lo hi need).length ∧ (WS s st n lo hi need).length ≤ 400) ∧ (0 ≤ L1 (WS s st n lo hi need) k ∧ L1 (WS s st n lo hi need) k ≤ L2 (WS s st n lo hi need) k ∧ L2 (WS s st n lo hi need) k ≤ 10000000) ∧ (k = 0 ∨ (0 < k ∧ 0 ≤ L2 (WS s st n lo hi need) (k - 1) ∧ L2 (WS s st n lo hi need) (k - 1) + 1 < L1 (WS s st n lo hi need) k))) := by
  rcases Nat.lt_or_ge k (WS s st n lo hi need).length with h | h
  · refine Or.inr ⟨⟨h, (ws_ok s st n lo hi need).2⟩, ws_at (ws_ok s st n lo hi need).1 h, ?_⟩
    rcases Nat.eq_zero_or_pos k with h0 | h0
    · exact Or.inl h0
    · have a := ws_at (ws_ok s st n lo hi need).1 (i := k - 1) (by omega)
      exact Or.inr ⟨h0, by omega, ws_lt (ws_wn hv hn).gap (by omega) h⟩
  · exact Or.inl h
theorem win_law (d m : Int) (q : Nat) (sq : Nat → Int) (s st : Int) (n : Nat) (lo hi : Nat → Int) (v dp time : Int) (h : kWE d m q sq v dp s st n lo hi = 0) : inW (kWS d m q sq v dp s st n lo hi) time (kWS d m q sq v dp s st n lo hi).length = (decide (dE d m q sq s st n lo hi dp v time time = 0) && dB d m q sq s st n lo hi dp v time time) := by
  obtain ⟨a1, a2, a3, a4, a5, a6, a7⟩ := kWE_0i h
  obtain ⟨e1, e2⟩ := dE_t d m q sq s st n lo hi dp v time time a2
  rw [a7, in_high a3 a6, e1, e2]
  have el : lE d m q sq v s st n lo hi time time = HE s st n lo hi time time := by
    unfold lE; rw [a5]; simp
    intro hh; exact hh.symm
  rw [el]
  by_cases z : HE s st n lo hi time time = 0
  · have en : lN d m q sq v s st n lo hi time time = needV d m sq v - HL s st n lo hi time time := by rw [lN, el, if_pos z]
    rw [z, en]
    simp only [decide_true, Bool.true_and]
    exact decide_eq_decide.2 (by omega)
  · simp [z]
theorem win_err (d m : Int) (q : Nat) (sq : Nat → Int) (s st : Int) (n : Nat) (lo hi : Nat → Int) (v dp time : Int) (h : kWE d m q sq v dp s st n lo hi ≠ 0) : (kWE d m q sq v dp s st n lo hi == dE d m q sq s st n lo hi dp v time time || dE d m q sq s st n lo hi dp v time time == 1) = true := by
  unfold kWE at h ⊢
  rcases rE_c d m q sq v dp s st n lo hi with ⟨h0, e⟩ | ⟨h1, h2, h3, h4, ⟨h5, h6, h7, h8, h9⟩, ⟨h10, e⟩ | ⟨h10, e⟩⟩
  · rw [e]
    simp only [Int.reduceEq, if_false, Bool.or_eq_true, beq_iff_eq]
    right
    unfold dE
    split
    · rename_i hx
      unfold lE
      rw [if_pos]
      simp only [rB, hx, Bool.and_true] at h0
      cases hh : (kval d m q sq && isSp v) with
      | false => exact Or.inl (kE_1 (Bool.and_eq_false_iff.1 hh))
      | true =>
        rw [hh] at h0
        simp only [Bool.true_and] at h0
        exact Or.inr (by unfold HE; rw [if_neg]; rintro ⟨a, _⟩; rw [a] at h0; cases h0)
    · rfl
  · rw [e]
    simp only [Int.reduceEq, if_false, Bool.or_eq_true, beq_iff_eq]
    unfold dE lE
    rw [if_pos h3, kE_3 ⟨h1, h2⟩ h10]
    split
    · exact Or.inr rfl
    · exact Or.inl rfl
  · exfalso
    rw [e] at h
    simp only [if_true] at h
    have b := needV_bd h1 h5 h10
    exact h (we_0 h4 (decide_eq_true (by omega)))

theorem kwin_round {d m : Int} {q : Nat} {sq : Nat → Int} {v dp s st : Int} {n : Nat} {lo hi : Nat → Int} (h : kWE d m q sq v dp s st n lo hi = 0) (k : Nat) : (kWS d m q sq v dp s st n lo hi).length ≤ k ∨ ((k < (kWS d m q sq v dp s st n lo hi).length ∧ (kWS d m q sq v dp s st n lo hi).length ≤ 400) ∧ (0 ≤ L1 (kWS d m q sq v dp s st n lo hi) k ∧ L1 (kWS d m q sq v dp s st n lo hi) k ≤ L2 (kWS d m q sq v dp s st n lo hi) k ∧ L2 (kWS d m q sq v dp s st n lo hi) k ≤ 10000000) ∧ (k = 0 ∨ (0 < k ∧ 0 ≤ L2 (kWS d m q sq v dp s st n lo hi) (k - 1) ∧ L2 (kWS d m q sq v dp s st n lo hi) (k - 1) + 1 < L1 (kWS d m q sq v dp s st n lo hi) k))) := by
  obtain ⟨a1, a2, a3, a4, a5, a6, a7⟩ := kWE_0i h
  rw [a7]; exact win_round a3 a6 k
theorem win_x0 {ws : List (Int × Int)} {k : Nat} (hk : k = 0) (h : L1 ws k ≤ L2 ws k) : ((k : Int) == 0) = true ∧ decide (L1 ws k ≤ L2 ws k) = true := ⟨beq_iff_eq.2 (by omega), decide_eq_true h⟩
theorem win_xk {ws : List (Int × Int)} {k : Nat} (hk : 0 < k) (hl : k < ws.length) (h4 : ws.length ≤ 400) (h0 : 0 ≤ L2 ws (k - 1)) (h1 : L2 ws (k - 1) + 1 < L1 ws k) (h2 : L1 ws k ≤ L2 ws k) (h3 : L2 ws k ≤ 10000000) : ((k : Int) == 0) = false ∧ IntKind.i64.wrap ((k : Int) - 1) = (k : Int) - 1 ∧ IntKind.i64.wrap (L2 ws (k - 1) + 1) = L2 ws (k - 1) + 1 ∧ decide (L2 ws (k - 1) + 1 < L1 ws k) = true ∧ decide (L1 ws k ≤ L2 ws k) = true :=
  ⟨beq_eq_false_iff_ne.2 (by omega), seaWrap (by omega) (by omega), seaWrap (by omega) (by omega), decide_eq_true h1, decide_eq_true h2⟩

set_option maxRecDepth 100000 in
set_option maxHeartbeats 4000000 in
theorem law10 (d m : Int) (q : Nat) (sq : Nat → Int) (s st : Int) (n : Nat) (lo hi : Nat → Int) (dp v time : Int) : CallsP Try.prog 10 [shipP d m q sq, tideP s st n lo hi, .one (.g (.int .i64 (dp))), .one (.g (.int .i64 (v))), .one (.g (.int .i64 (time)))] (.t (.one (.g (.bool true)))) := by
  have hsx : True := trivial
  refine CallsP_of Try.func10 rfl (by rw [Try.ntmps10]; simp) ?_
  simp only [Try.ntmps10, List.map_cons, List.map_nil, PT.tv, argEnv, Nat.zero_add, Nat.reduceAdd]
  repeat' (first
    | (with_reducible refine AW_seq_k fun K hK => ?_)
    | ((first | (with_reducible refine And.intro ?_ ?_) | (with_reducible refine Need.mk ?_)); focus (first | exact True.intro | (with_reducible assumption) | omega | (refine ⟨?_, ?_⟩ <;> omega) | (intro _; first | exact True.intro | (with_reducible assumption) | omega) | (intros; (repeat' (first | exact True.intro | omega | (with_reducible assumption) | (with_reducible refine And.intro ?_ ?_))); done) | (simp (disch := omega) only [Bool.and_eq_true, Bool.or_eq_true, decide_eq_true_eq, bne_iff_ne, ne_eq] at *; first | done | omega | (intros; omega)) | (simp; done) | (simp; omega) | (simp +contextual; done) | (intros; simp_all; done)))
    | (with_reducible refine AW_skip ?_)
    | (with_reducible refine AW_exit ?_)
    | (with_reducible refine AW_ret ?_)
    | (with_reducible refine retK_n ?_)
    | (with_reducible refine retK_n' ?_)
    | (with_reducible refine retH_n rfl rfl rfl ?_)
    | (with_reducible refine retH_n' rfl rfl rfl ?_)
    | (with_reducible refine AW_condI ?_)
    | (with_reducible refine AW_block ?_)
    | ((with_reducible refine condN_t ?_ ?_) <;> (intro hc; (try simp only [Bool.and_eq_true, Bool.or_eq_true, Bool.not_eq_true', Bool.and_eq_false_iff, Bool.or_eq_false_iff, decide_eq_true_eq, decide_eq_false_iff_not, bne_iff_ne, beq_iff_eq, reduceCtorEq, bne_eq_false_iff_eq, beq_eq_false_iff_ne, Bool.not_eq_false', Int.not_le, Int.not_lt, Bool.not_not] at hc); (skip); (try (exfalso; first | contradiction | omega))))
    | (with_reducible refine AW_regionP 0 [0, 1, 2, 3, 4] ?_)
    | (with_reducible refine AW_regionP 1 [2, 3, 4, 5, 6] ?_)
    | (with_reducible refine AW_regionP 2 [2, 3, 4, 5, 6, 11] ?_)
    | (with_reducible refine AW_regionP 3 [11] ?_)
    | (with_reducible refine AW_regionP 4 [2, 3, 4, 5, 6, 11] ?_)
    | (with_reducible refine AW_regionP 5 [2, 3, 4, 5, 6, 11, 12, 13] ?_)
    | (with_reducible refine AW_regionP 6 [4, 11, 12, 13, 14, 15] ?_)
    | (with_reducible refine AW_regionP 7 [11, 13, 15] ?_)
    | (with_reducible refine AW_regionP 8 [4, 11, 12, 14, 15] ?_)
    | (with_reducible refine AW_regionP 9 [4, 11, 12, 14, 15, 16] ?_)
    | (with_reducible refine AW_regionP 10 [4, 11, 12, 14, 15, 16, 54, 55, 56] ?_)
    | (with_reducible refine AW_regionP 11 [4, 11, 12, 14, 15, 16, 54, 55, 56] ?_)
    | ((with_reducible refine AW_prune (c := Code.region 12 _ true) [4, 11, 12, 14, 15, 16, 17, 18, 54, 55, 56] ?_); (with_reducible refine AW_regionD ?_ ?_ ?_ ?_); (focus kernel_rfl); (focus kernel_rfl); (focus kernel_rfl))
    | (with_reducible refine AW_regionP 13 [4, 11, 12, 14, 15, 16, 18, 54, 55, 56] ?_)
    | (with_reducible refine AW_regionP 14 [4, 11, 12, 14, 15, 16, 54, 55, 56] ?_)
    | (with_reducible refine AW_regionP 15 [11, 14, 15, 16] ?_)
    | ((with_reducible refine And.intro ?_ ?_); focus ((with_reducible show chkR _ _ _ = true); kernel_rfl))
    | (refine callN_q (k := 31) fnok_31 (head_p) ?_ ?_)
    | (refine callN_q (k := 14) fnok_14 (few_p _ _ _ _ _) ?_ ?_)
    | (refine callN_q (k := 42) fnok_42 (kwin_p _ _ _ _ _ _ _ _ _ _ _) ?_ ?_)
    | (refine callN_q (k := 36) fnok_36 (kdeep_p _ _ _ _ _ _ _ _ _ _ _ _ _) ?_ ?_)
    | ((with_reducible refine AW_loopQ (c := (Code.seq (Code.region 10 _ _) _)) (ι := Nat) [4, 12, 14, 15, 54, 55] (fun k => [(11, bA true), (16, bA (inW (kWS d m q sq v dp s st n lo hi) time k)), (56, iA .i64 (k : Int))]) (fun k => []) (fun k => k ≤ (kWS d m q sq v dp s st n lo hi).length) (fun k => (kWS d m q sq v dp s st n lo hi).length - k) 0 ?lg ?l1 ?l2 ?li ?lr); (case' lg => rintro k _); (case' li => try exact Nat.zero_le _); (case' lr => rintro k h1 KR hR10; (clear hsx; rcases kwin_round (by assumption) k with hge | ⟨⟨hlt, hl4⟩, ⟨w1, w2, w3⟩, w4 | ⟨w4, w5, w6⟩⟩); (case' inl => have hsx : True := trivial); (case' inr.inl => have hsx := win_x0 w4 w2); (case' inr.inr => have hsx := win_xk w4 hlt hl4 w5 w6 w2 w3); simp only [keepE, hupd, hset, lk, if_true, if_false, Nat.reduceEqDiff, reduceIte, List.cons_append, List.nil_append, spanF0, spanF1, hsx]))
    | ((with_reducible refine hR10 _ (k + 1) ?_); (try clear hR10 KR))
    | ((with_reducible refine Told.mk ?_); simp only [go_sem, reduceIte, reduceCtorEq, Nat.reduceAdd, Nat.reduceLT, Nat.reduceLeDiff, Nat.reduceEqDiff, Nat.reduceMul, Nat.reduceSub, Nat.reduceBEq, spanF0, spanF1, hsx] <;> (first | exact True.intro | ((try simp (disch := omega) only [seaWrap, inW_s, Int.natCast_add, Int.cast_ofNat_Int, and_true, true_and, and_self]); (repeat' (first | exact True.intro | omega | rfl | (with_reducible assumption) | (with_reducible refine And.intro ?_ ?_) | (simp (disch := omega) only [seaWrap, inW_s, Int.natCast_add, Int.cast_ofNat_Int, and_self, true_or, Bool.cond_false_right, Bool.cond_true_left]))); done) | ((rw [inW_0]; repeat' (first | exact True.intro | rfl | (with_reducible assumption) | (with_reducible refine And.intro ?_ ?_) | simp)); done) | (refine Stuck.out ?_)))
    | ((fail_if_success (with_reducible show AW _ _ _ _)); simp (maxSteps := 2000000) only [go_sem, reduceIte, reduceCtorEq, Nat.reduceAdd, Nat.reduceLT, Nat.reduceLeDiff, Nat.reduceEqDiff, Nat.reduceMul, Nat.reduceSub, Nat.reduceBEq, Try.f10, fnok_31, ty_24, fnok_14, ty_45, fnok_42, fnok_36, le_22, sl_22, ar_22, ty_31, zc_31, of_31_0, ty_3, of_31_1, bo_4, spanF0, spanF1, hsx])
    | ((fail_if_success (with_reducible show AW _ _ _ _)); simp (disch := omega) only [seaWrap, seaDiv, seaMod])
    | ((with_reducible refine hK _ ?_); clear hK K)
    | (with_reducible apply_assumption -exfalso))
  all_goals (first | (obtain rfl : k = (kWS d m q sq v dp s st n lo hi).length := (by omega); have e := win_law d m q sq s st n lo hi v dp time (by assumption); rw [e]; by_cases z : dE d m q sq s st n lo hi dp v time time = 0 <;> simp [z]) | exact win_err d m q sq s st n lo hi v dp time (by assumption))

theorem vE_04 {d m : Int} {q : Nat} {sq : Nat → Int} {v dp s st : Int} {n : Nat} {lo hi : Nat → Int} {f long : Int} (h : vE d m q sq v dp s st n lo hi f long = 0 ∨ vE d m q sq v dp s st n lo hi f long = 4) : kval d m q sq = true ∧ isDp dp = true ∧ tval s st n lo hi = true ∧ (0 ≤ v ∧ v ≤ 2000 ∧ v ≤ 100 * (q : Int)) ∧ kE d m q sq v = 0 ∧ nd (needV d m sq v - dp) = true ∧ tm f = true ∧ tm long = true ∧ vE d m q sq v dp s st n lo hi f long = NE s st n lo hi (needV d m sq v - dp) f long ∧ vV d m q sq v dp s st n lo hi f long = NV s st n lo hi (needV d m sq v - dp) f long := by
  unfold vE at h ⊢
  unfold vV
  cases hf : tm f with
  | false => simp [hf] at h
  | true =>
    cases hl : tm long with
    | false => simp [hl] at h
    | true =>
      rcases rE_c d m q sq v dp s st n lo hi with ⟨h0, e⟩ | ⟨h1, h2, h3, h4, ⟨h5, h6, h7, h8, h9⟩, ⟨h10, e⟩ | ⟨h10, e⟩⟩
      · rw [e] at h; simp at h
      · rw [e] at h; simp [hf, hl] at h
      · have b := needV_bd h1 h5 h10
        exact ⟨h1, h3, h4, ⟨h5, h6, h10⟩, kE_0 ⟨h1, h2⟩ h10, decide_eq_true (by omega), rfl, rfl, by simp [e], by simp [e]⟩
theorem vE_13 (d m : Int) (q : Nat) (sq : Nat → Int) (s st : Int) (n : Nat) (lo hi : Nat → Int) (v dp f long : Int) (h : vE d m q sq v dp s st n lo hi f long ≠ 0 ∧ vE d m q sq v dp s st n lo hi f long ≠ 4) : (vE d m q sq v dp s st n lo hi f long == 1 || vE d m q sq v dp s st n lo hi f long == 3) = true := by
  unfold vE at h ⊢
  split
  · rfl
  · rename_i hh
    rw [if_neg hh] at h
    rcases rE_c d m q sq v dp s st n lo hi with ⟨h0, e⟩ | ⟨h1, h2, h3, h4, ⟨h5, h6, h7, h8, h9⟩, ⟨h10, e⟩ | ⟨h10, e⟩⟩
    · exact absurd (Or.inl e) hh
    · rw [e]; rfl
    · exfalso
      rw [e] at h
      simp only [if_true] at h
      unfold NE at h
      split at h
      · split at h <;> omega
      · rename_i hx
        have b := needV_bd h1 h5 h10
        refine hx ⟨we_0 h4 (decide_eq_true (by omega)), ?_, ?_⟩
        · cases h' : tm f with
          | true => rfl
          | false => exact absurd (Or.inr (Or.inl h')) hh
        · cases h' : tm long with
          | true => rfl
          | false => exact absurd (Or.inr (Or.inr h')) hh
theorem leave_l {d m : Int} {q : Nat} {sq : Nat → Int} {v s st : Int} {n : Nat} {lo hi : Nat → Int} {f u : Int} (h5 : kE d m q sq v = 0) : lE d m q sq v s st n lo hi f u = HE s st n lo hi f u ∧ (HE s st n lo hi f u = 0 → lN d m q sq v s st n lo hi f u = needV d m sq v - HL s st n lo hi f u) := by
  have e : lE d m q sq v s st n lo hi f u = HE s st n lo hi f u := by
    unfold lE; rw [h5]; simp; intro hh; exact hh.symm
  exact ⟨e, fun h => by rw [lN, e, if_pos h]⟩
theorem leave_y (d m : Int) (q : Nat) (sq : Nat → Int) (s st : Int) (n : Nat) (lo hi : Nat → Int) (v dp f long : Int) (h : vE d m q sq v dp s st n lo hi f long = 0) : IntKind.i64.wrap (vV d m q sq v dp s st n lo hi f long + long) = vV d m q sq v dp s st n lo hi f long + long ∧ dE d m q sq s st n lo hi dp v (vV d m q sq v dp s st n lo hi f long) (vV d m q sq v dp s st n lo hi f long + long) = 0 ∧ dB d m q sq s st n lo hi dp v (vV d m q sq v dp s st n lo hi f long) (vV d m q sq v dp s st n lo hi f long + long) = true ∧ f ≤ vV d m q sq v dp s st n lo hi f long := by
  obtain ⟨a1, a2, a3, a4, a5, a6, a7, a8, a9, a10⟩ := vE_04 (Or.inl h)
  obtain ⟨y1, y2, y3, y4⟩ := next_yes a3 a6 (a9 ▸ h)
  have b7 := tm_bd a7
  have b8 := tm_bd a8
  rw [a10]
  obtain ⟨e1, e2⟩ := dE_t d m q sq s st n lo hi dp v (NV s st n lo hi (needV d m sq v - dp) f long) (NV s st n lo hi (needV d m sq v - dp) f long + long) a2
  obtain ⟨l1, l2⟩ := leave_l (d := d) (m := m) (sq := sq) (s := s) (st := st) (n := n) (lo := lo) (hi := hi) (f := NV s st n lo hi (needV d m sq v - dp) f long) (u := NV s st n lo hi (needV d m sq v - dp) f long + long) a5
  refine ⟨seaWrap (by omega) (by omega), ?_, ?_, y3⟩
  · rw [e1, l1, y1]
  · rw [e2, l1, l2 y1, y1]
    simp only [decide_true, Bool.true_and, decide_eq_true_eq]; omega
theorem leave_n (d m : Int) (q : Nat) (sq : Nat → Int) (s st : Int) (n : Nat) (lo hi : Nat → Int) (v dp f long other : Int) (h : vE d m q sq v dp s st n lo hi f long = 0 ∨ vE d m q sq v dp s st n lo hi f long = 4) (h1 : f ≤ other) (h2 : other ≤ IntKind.i64.wrap (10000000 - long)) (h3 : vE d m q sq v dp s st n lo hi f long = 0 → other < vV d m q sq v dp s st n lo hi f long) : IntKind.i64.wrap (other + long) = other + long ∧ (dE d m q sq s st n lo hi dp v other (other + long) = 4 ∨ dE d m q sq s st n lo hi dp v other (other + long) = 0 ∧ dB d m q sq s st n lo hi dp v other (other + long) = false) := by
  obtain ⟨a1, a2, a3, a4, a5, a6, a7, a8, a9, a10⟩ := vE_04 h
  have b7 := tm_bd a7
  have b8 := tm_bd a8
  rw [seaWrap (n := 10000000 - long) (by omega) (by omega)] at h2
  obtain ⟨e1, e2⟩ := dE_t d m q sq s st n lo hi dp v other (other + long) a2
  obtain ⟨l1, l2⟩ := leave_l (d := d) (m := m) (sq := sq) (s := s) (st := st) (n := n) (lo := lo) (hi := hi) (f := other) (u := other + long) a5
  refine ⟨seaWrap (by omega) (by omega), ?_⟩
  have hh : HE s st n lo hi other (other + long) = 0 ∨ HE s st n lo hi other (other + long) = 4 := by
    unfold HE
    rw [if_pos ⟨a3, decide_eq_true (by omega), decide_eq_true (by omega), by omega⟩]
    split
    · exact Or.inl rfl
    · exact Or.inr rfl
  rcases hh with z | z
  · right
    rw [e1, e2, l1, l2 z, z]
    refine ⟨rfl, ?_⟩
    simp only [decide_true, Bool.true_and, decide_eq_false_iff_not]
    intro hx
    obtain ⟨n1, n2⟩ := next_no a3 a6 a7 a8 h1 z (by omega)
    have := h3 (a9.trans n1)
    omega
  · left; rw [e1, l1, z]
theorem leave_a (d m : Int) (q : Nat) (sq : Nat → Int) (s st : Int) (n : Nat) (lo hi : Nat → Int) (v dp f long : Int) (h : vE d m q sq v dp s st n lo hi f long = 0) : (dE d m q sq s st n lo hi dp v (vV d m q sq v dp s st n lo hi f long) (IntKind.i64.wrap (vV d m q sq v dp s st n lo hi f long + long)) == 0 && dB d m q sq s st n lo hi dp v (vV d m q sq v dp s st n lo hi f long) (IntKind.i64.wrap (vV d m q sq v dp s st n lo hi f long + long)) && decide (vV d m q sq v dp s st n lo hi f long ≥ f)) = true := by
  obtain ⟨y1, y2, y3, y4⟩ := leave_y d m q sq s st n lo hi v dp f long h
  rw [y1, y2, y3]; simp; exact y4
theorem leave_b (d m : Int) (q : Nat) (sq : Nat → Int) (s st : Int) (n : Nat) (lo hi : Nat → Int) (v dp f long other : Int) (h : vE d m q sq v dp s st n lo hi f long = 0 ∨ vE d m q sq v dp s st n lo hi f long = 4) (h1 : f ≤ other) (h2 : other ≤ IntKind.i64.wrap (10000000 - long)) (h3 : vE d m q sq v dp s st n lo hi f long = 0 → other < vV d m q sq v dp s st n lo hi f long) : (dE d m q sq s st n lo hi dp v other (IntKind.i64.wrap (other + long)) == 4 || dE d m q sq s st n lo hi dp v other (IntKind.i64.wrap (other + long)) == 0 && !dB d m q sq s st n lo hi dp v other (IntKind.i64.wrap (other + long))) = true := by
  obtain ⟨y1, y2 | ⟨y2, y3⟩⟩ := leave_n d m q sq s st n lo hi v dp f long other h h1 h2 h3
  · rw [y1, y2]; rfl
  · rw [y1, y2, y3]; rfl

set_option maxRecDepth 100000 in
set_option maxHeartbeats 4000000 in
theorem law11 (d m : Int) (q : Nat) (sq : Nat → Int) (s st : Int) (n : Nat) (lo hi : Nat → Int) (dp v f long other : Int) : CallsP Try.prog 11 [shipP d m q sq, tideP s st n lo hi, .one (.g (.int .i64 (dp))), .one (.g (.int .i64 (v))), .one (.g (.int .i64 (f))), .one (.g (.int .i64 (long))), .one (.g (.int .i64 (other)))] (.t (.one (.g (.bool true)))) := by
  refine CallsP_of Try.func11 rfl (by rw [Try.ntmps11]; simp) ?_
  simp only [Try.ntmps11, List.map_cons, List.map_nil, PT.tv, argEnv, Nat.zero_add, Nat.reduceAdd]
  repeat' (first
    | (with_reducible refine AW_seq_k fun K hK => ?_)
    | ((first | (with_reducible refine And.intro ?_ ?_) | (with_reducible refine Need.mk ?_)); focus (first | exact True.intro | (with_reducible assumption) | omega | (refine ⟨?_, ?_⟩ <;> omega) | (intro _; first | exact True.intro | (with_reducible assumption) | omega) | (intros; (repeat' (first | exact True.intro | omega | (with_reducible assumption) | (with_reducible refine And.intro ?_ ?_))); done) | (simp (disch := omega) only [Bool.and_eq_true, Bool.or_eq_true, decide_eq_true_eq, bne_iff_ne, ne_eq] at *; first | done | omega | (intros; omega)) | (simp; done) | (simp; omega) | (simp +contextual; done) | (intros; simp_all; done)))
    | (with_reducible refine AW_skip ?_)
    | (with_reducible refine AW_exit ?_)
    | (with_reducible refine AW_ret ?_)
    | (with_reducible refine retK_n ?_)
    | (with_reducible refine retK_n' ?_)
    | (with_reducible refine retH_n rfl rfl rfl ?_)
    | (with_reducible refine retH_n' rfl rfl rfl ?_)
    | (with_reducible refine AW_condI ?_)
    | (with_reducible refine AW_block ?_)
    | ((with_reducible refine condN_t ?_ ?_) <;> (intro hc; (try simp only [Bool.and_eq_true, Bool.or_eq_true, Bool.not_eq_true', Bool.and_eq_false_iff, Bool.or_eq_false_iff, decide_eq_true_eq, decide_eq_false_iff_not, bne_iff_ne, beq_iff_eq, reduceCtorEq, bne_eq_false_iff_eq, beq_eq_false_iff_ne, Bool.not_eq_false', Int.not_le, Int.not_lt, Bool.not_not] at hc); (skip); (try (exfalso; first | contradiction | omega))))
    | (with_reducible refine AW_regionP 0 [0, 1, 2, 3, 4, 5, 6] ?_)
    | (with_reducible refine AW_regionP 1 [2, 3, 4, 5, 6, 7, 8] ?_)
    | (with_reducible refine AW_regionP 2 [2, 3, 4, 5, 6, 7, 8, 15] ?_)
    | (with_reducible refine AW_regionP 3 [15] ?_)
    | (with_reducible refine AW_regionP 4 [2, 3, 4, 5, 6, 7, 8, 15] ?_)
    | (with_reducible refine AW_regionP 5 [2, 3, 4, 5, 6, 7, 8, 15, 16, 17] ?_)
    | (with_reducible refine AW_regionP 6 [15, 17] ?_)
    | (with_reducible refine AW_regionP 7 [2, 3, 4, 5, 6, 7, 8, 15, 16, 17] ?_)
    | (with_reducible refine AW_regionP 8 [2, 3, 4, 5, 6, 7, 8, 15, 16, 17] ?_)
    | (with_reducible refine AW_regionP 9 [2, 3, 4, 5, 6, 7, 8, 15, 16, 17, 18, 19] ?_)
    | (with_reducible refine AW_regionP 10 [2, 3, 4, 5, 6, 7, 8, 15, 16, 17] ?_)
    | (with_reducible refine AW_regionP 11 [15] ?_)
    | (with_reducible refine AW_regionP 12 [2, 3, 5, 6, 7, 8, 15] ?_)
    | (with_reducible refine AW_regionP 13 [15, 20, 21] ?_)
    | (refine callN_q (k := 31) fnok_31 (head_p) ?_ ?_)
    | (refine callN_q (k := 14) fnok_14 (few_p _ _ _ _ _) ?_ ?_)
    | (refine callN_q (k := 44) fnok_44 (kleave_p _ _ _ _ _ _ _ _ _ _ _ _ _) ?_ ?_)
    | (refine callN_q (k := 36) fnok_36 (kdeep_p _ _ _ _ _ _ _ _ _ _ _ _ _) ?_ ?_)
    | ((fail_if_success (with_reducible show AW _ _ _ _)); simp (maxSteps := 2000000) only [go_sem, reduceIte, reduceCtorEq, Nat.reduceAdd, Nat.reduceLT, Nat.reduceLeDiff, Nat.reduceEqDiff, Nat.reduceMul, Nat.reduceSub, Nat.reduceBEq, Try.f11, fnok_31, ty_24, fnok_14, ty_45, fnok_44, fnok_36])
    | ((fail_if_success (with_reducible show AW _ _ _ _)); simp (disch := omega) only [seaDiv, seaMod])
    | ((with_reducible refine hK _ ?_); clear hK K))
  all_goals (first
    | exact vE_13 d m q sq s st n lo hi v dp f long (by assumption)
    | exact leave_a d m q sq s st n lo hi v dp f long (by assumption)
    | exact leave_b d m q sq s st n lo hi v dp f long other (by assumption) (by omega) (by omega) (by omega)
    | (have ea := leave_a d m q sq s st n lo hi v dp f long (by assumption); have eb := leave_b d m q sq s st n lo hi v dp f long other (by assumption) (by omega) (by omega) (by omega); simp only [ea, eb, Bool.true_and, Bool.and_true, Bool.and_self]; first | done | (simp; done)))

end Go.Proofs.Ythfnmooeijneoaa
