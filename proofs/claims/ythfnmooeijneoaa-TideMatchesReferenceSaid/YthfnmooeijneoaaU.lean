/- U: walks on abstract states. -/
import Derived.Test.YthfnmooeijneoaaS
import Derived.Test.YthfnmooeijneoaaH
set_option linter.unusedVariables false
set_option linter.unusedSimpArgs false
namespace Go.Proofs.Ythfnmooeijneoaa
open Go.RowKit Go.Sea
attribute [local go_sem] callK_N gf gk gdrop lkL setL lsF ltAll rdyL bodyF roundQ roundS loopQ loopS jumpOf inLs yV yA bAV zipPut purgeG List.tail_cons Option.isNone_none Option.isNone_some callGK_f callDK_f callDGK_f retN retHN blockA arun_nil arun_plain arun_guard plainF guardF guardB arunD_nil arunD_plain arunD_guard plainDF guardDF guardDB AS.ent Eff.noApp Eff.tgt ftF AV.refs TV.refs CV.refs LV.refs Op.operands Call.operands List.append_toArray List.push_toArray List.flatMap_cons List.flatMap_nil List.toList_toArray Option.toArray List.reverse_cons List.reverse_nil opF AS.ev constA lk AS.get AV.tv AV.nd AS.eff AS.put argEnv PT.tv PV.av AV.mbOf hset hget TV.cells dstOk thenA gB isB toB TV.bool? TV.int? intF loadF storeF fieldF indexF lenF sliceF optI appF minmaxF ipCells fillF repC partsF lvsF TV.lv LV.tv purgeE purgeC purgeH AV.purge CV.purge AV.has TV.has CV.has LV.has calleeF argsF tvsF toPT toIV toIVs toPTs toPV civ isIv iA bA List.map_cons List.map_nil List.length_nil List.length_cons List.getElem?_cons_zero List.getElem?_cons_succ List.getElem?_nil Option.getD_some Option.getD_none Option.bind_some Option.bind_none List.take_succ_cons List.take_zero List.drop_succ_cons List.drop_zero List.take_nil List.drop_nil List.cons_append List.nil_append List.append_nil List.getD_cons_zero List.getD_cons_succ Option.map_some Option.map_none Option.isSome_some Option.isSome_none List.size_toArray List.any_cons List.any_nil List.mem_cons if_true if_false ite_true ite_false cond_true cond_false Nat.zero_add Nat.add_zero Nat.sub_zero Nat.le_refl Nat.zero_mul Nat.mul_zero Nat.one_mul Nat.mul_one Int.toNat_zero Int.toNat_natCast Bool.or_false Bool.false_or Bool.or_true Bool.true_or Bool.and_true Bool.true_and Bool.and_false Bool.false_and beq_self_eq_true beq_true beq_false Bool.not_true Bool.not_false and_true true_and and_false false_and and_self imp_self Bool.cond_false_right Bool.cond_true_left implies_true forall_const true_implies false_implies Option.some.injEq Prod.mk.injEq ne_eq not_false_eq_true not_true_eq_false eq_self Nat.lt_irrefl Nat.not_lt_zero boF seaMin seaMax seaNat1 seaNat2 Value.bool.injEq Value.int.injEq srcF lstC TV.dp IV.eqv PT.eqv PV.eqv All2 keepE hupd callZ_N AS.frz AS.frzW frzs frzsOk frzOk frzE frzA frzT frzC frzG frzH hdel cmpS eqF eqC gvs eqVs eqV decide_true resF tupA inlQ okL okGL okG nextL wkH wkC wkV nilA nilC AV.ok TV.ok CV.ok LV.ok okB forall_eq_or_imp forall_eq List.not_mem_nil List.mem_singleton true_or or_true or_false false_or exists_prop AV.t.injEq TV.one.injEq CV.iv.injEq IV.g.injEq TV.agg.injEq List.cons.injEq
theorem fd_31_0 : fldD Try.prog 31 0 = some (0, false, 1) := by kernel_rfl
theorem fnok_21 : fnOk Try.prog 21 = true := by kernel_rfl
theorem fnok_58 : fnOk Try.prog 58 = true := by kernel_rfl

theorem mins_len (h : Int → Int) (s : Int) : ∀ k : Nat, (mins h s k).length = k
  | 0 => rfl
  | k + 1 => by simp [mins, mins_len h s k]
theorem win_app (need : Int) (a b : List Q4) : win need (a ++ b) = b.foldl (addW need) (win need a) := by simp [win]
theorem addW_len2 (need : Int) (ws : List (Int × Int)) (x : Q4) : ws.length ≤ (addW need ws x).length := by
  obtain ⟨xa, xc, xl, xh⟩ := x
  by_cases k : xl < need
  · rw [addW_skip k]; omega
  · rcases List.eq_nil_or_concat ws with rfl | ⟨f, ⟨l1, l2⟩, rfl⟩
    · rw [addW_nil k]; simp
    · rw [List.concat_eq_append]
      by_cases k2 : l2 + 1 = xa
      · rw [addW_ext k k2]; simp
      · rw [addW_new k k2]; simp
theorem callGK_f0 {P : Program} {gs : List (Option Nat)} {d : Option Tmp} {op : BinOp} {t t' : TypeId} {x y : Operand} {ty : TypeId} {pos : String} {aft : Array Edge} {g : Option (Nat × Bool)} {os : List Oper} {s : AS} {K : AS → Prop} (h : arun P gs os (s.put d .any) K) :
    callGK P gs false ⟨d, .binOp op t x y t', ty, pos, aft, g⟩ os s K := by
  unfold callGK callG
  exact ⟨fun h => (by cases h), fun _ => h⟩
theorem foldW_len (need : Int) : ∀ (b : List Q4) (ws : List (Int × Int)), ws.length ≤ (b.foldl (addW need) ws).length
  | [], _ => Nat.le_refl _
  | x :: b, ws => Nat.le_trans (addW_len2 need ws x) (foldW_len need b _)
theorem mins_app (h : Int → Int) (s : Int) (k : Nat) : ∀ j : Nat, ∃ b, mins h s (k + j) = mins h s k ++ b
  | 0 => ⟨[], by simp⟩
  | j + 1 => by
    obtain ⟨b, e⟩ := mins_app h s k j
    exact ⟨b ++ [(s + ((k + j : Nat) : Int), s + ((k + j : Nat) : Int), h (s + ((k + j : Nat) : Int)), h (s + ((k + j : Nat) : Int)))], by rw [← Nat.add_assoc, mins, e, List.append_assoc]⟩
theorem wm_end {s st : Int} {n : Nat} {lo hi : Nat → Int} {need : Int} (hv : tval s st n lo hi = true) (hn : nd need = true) {k : Nat} (hk : s + (k : Int) = s + ((n : Int) - 1) * st + 1) : win need (mins (hL s st lo) s k) = WS s st n lo hi need := by
  have a := (win_run (mins_run (hL s st lo) s k) (need := need)).1
  rw [hk] at a
  exact a.uniq (ws_wn hv hn)
theorem wm_ok {s st : Int} {n : Nat} {lo hi : Nat → Int} {need : Int} (hv0 : tval s st n lo hi = true) (hn : nd need = true) {k : Nat} (hk : s + (k : Int) ≤ s + ((n : Int) - 1) * st + 1) : ∃ ws, win need (mins (hL s st lo) s k) = ws ∧ ws.length ≤ 400 ∧ (0 < ws.length → 0 ≤ lastE ws ∧ lastE ws ≤ 10000000) := by
  have hv := tval_tv hv0
  refine ⟨_, rfl, ?_, fun h => ?_⟩
  · have e := wm_end hv0 hn (k := (s + ((n : Int) - 1) * st + 1 - s).toNat) (by have := hv.n0; have := prod_bd hv.n0 hv.n1 hv.st0 hv.st1; omega)
    obtain ⟨b, eb⟩ := mins_app (hL s st lo) s k ((s + ((n : Int) - 1) * st + 1 - s).toNat - k)
    rw [show k + ((s + ((n : Int) - 1) * st + 1 - s).toNat - k) = (s + ((n : Int) - 1) * st + 1 - s).toNat by omega] at eb
    rw [eb, win_app] at e
    have := foldW_len need b (win need (mins (hL s st lo) s k))
    rw [e] at this
    exact Nat.le_trans this (ws_ok s st n lo hi need).2
  · have hr := run_ok (mins_run (hL s st lo) s k) hv.s0 (by have := hv.last; omega) need
    have := ws_at hr (i := (win need (mins (hL s st lo) s k)).length - 1) (by omega)
    exact ⟨by unfold lastE; omega, by unfold lastE; omega⟩
theorem wm_round {s st : Int} {n : Nat} {lo hi : Nat → Int} (hv : Tv s st n lo hi) {k : Nat} (hk : s + (k : Int) ≤ s + ((n : Int) - 1) * st + 1) : s + ((n : Int) - 1) * st < s + (k : Int) ∨ (s + (k : Int) ≤ s + ((n : Int) - 1) * st ∧ (0 ≤ s ∧ s + (k : Int) ≤ 10000000) ∧ (-100000 ≤ hL s st lo (s + (k : Int)) ∧ hL s st lo (s + (k : Int)) ≤ hH s st hi (s + (k : Int)) ∧ hH s st hi (s + (k : Int)) ≤ 100000)) := by
  have := hv.last
  have := hv.s0
  by_cases h : s + ((n : Int) - 1) * st < s + (k : Int)
  · exact Or.inl h
  · exact Or.inr ⟨by omega, by omega, at_bd hv (by omega) (by omega)⟩
theorem mins_s (h : Int → Int) (s : Int) (k : Nat) (need : Int) : win need (mins h s (k + 1)) = addW need (win need (mins h s k)) (s + (k : Int), s + (k : Int), h (s + (k : Int)), h (s + (k : Int))) := win_snoc _ _ _
theorem xw {s : Int} {k : Nat} (h0 : 0 ≤ s) (h : s + (k : Int) ≤ 10000000) : IntKind.i64.wrap (s + (k : Int) - 1) = s + (k : Int) - 1 := seaWrap (by omega) (by omega)
theorem addW_setX {need : Int} {ws : List (Int × Int)} {xa xl xh : Int} (h : need ≤ xl) (h0 : 0 < ws.length) (h2 : lastE ws = xa - 1) : addW need ws (xa, xa, xl, xh) = setLast ws xa := addW_set h h0 (by omega)
theorem addW_pushX {need : Int} {ws : List (Int × Int)} {xa xl xh : Int} (h : need ≤ xl) (h2 : ws.length = 0 ∨ lastE ws ≠ xa - 1) : addW need ws (xa, xa, xl, xh) = ws ++ [(xa, xa)] := addW_push h (by omega)

set_option maxRecDepth 100000 in
set_option maxHeartbeats 4000000 in
theorem rwindows_1 (s st : Int) (n : Nat) (lo hi : Nat → Int) (need : Int) (h : (tval s st n lo hi && nd need) = false) : CallsP Try.prog 21 [tideP s st n lo hi, .one (.g (.int .i64 (need)))] (.tup [.one (.lst 2 (([] : List (Int × Int))).length (spanF (L1 (([] : List (Int × Int)))) (L2 (([] : List (Int × Int)))))), .one (.g (.int .i64 (1)))]) := by
  refine CallsP_of Try.func21 rfl (by rw [Try.ntmps21]; simp) ?_
  simp only [Try.ntmps21, List.map_cons, List.map_nil, PT.tv, argEnv, Nat.zero_add, Nat.reduceAdd]
  repeat' (first
    | (with_reducible refine AW_seq_k fun K hK => ?_)
    | ((first | (with_reducible refine And.intro ?_ ?_) | (with_reducible refine Need.mk ?_)); focus (first | exact True.intro | (with_reducible assumption) | omega | (refine ⟨?_, ?_⟩ <;> omega) | (intro _; first | exact True.intro | (with_reducible assumption) | omega) | (intros; (repeat' (first | exact True.intro | omega | (with_reducible assumption) | (with_reducible refine And.intro ?_ ?_))); done) | (simp (disch := omega) only [Bool.and_eq_true, Bool.or_eq_true, decide_eq_true_eq, bne_iff_ne, ne_eq] at *; first | done | omega | (intros; omega)) | (simp; done) | (simp; omega) | (simp +contextual; done) | (intro h; rw [h]; rfl) | (intros; simp_all; done)))
    | (with_reducible refine AW_skip ?_)
    | (with_reducible refine AW_exit ?_)
    | (with_reducible refine AW_ret ?_)
    | (with_reducible refine retK_n ?_)
    | (with_reducible refine retK_n' ?_)
    | (with_reducible refine retH_n rfl rfl rfl ?_)
    | (with_reducible refine retH_n' rfl rfl rfl ?_)
    | (with_reducible refine AW_condI ?_)
    | (with_reducible refine AW_block ?_)
    | ((with_reducible refine condN_t ?_ ?_) <;> (intro hc; (try simp only [Bool.and_eq_true, Bool.or_eq_true, Bool.not_eq_true', Bool.and_eq_false_iff, Bool.or_eq_false_iff, decide_eq_true_eq, decide_eq_false_iff_not, bne_iff_ne, beq_iff_eq, reduceCtorEq, bne_eq_false_iff_eq, beq_eq_false_iff_ne, Bool.not_eq_false', Int.not_le, Int.not_lt, Bool.not_not] at hc); (try (exfalso; first | contradiction | omega))))
    | (with_reducible refine AW_regionP 0 [0, 1] ?_)
    | (with_reducible refine AW_regionP 1 [1, 2] ?_)
    | (with_reducible refine AW_regionP 2 [1, 2, 6] ?_)
    | (with_reducible refine AW_regionP 3 [1, 2, 6, 7] ?_)
    | (with_reducible refine AW_regionP 4 [] ?_)
    | (with_reducible refine AW_regionP 5 [1, 2] ?_)
    | (with_reducible refine AW_regionP 6 [1, 2, 8] ?_)
    | (with_reducible refine AW_regionP 7 [1, 2, 8, 9] ?_)
    | (with_reducible refine AW_regionP 8 [1, 2, 8, 9] ?_)
    | (with_reducible refine AW_regionP 9 [1, 2, 8, 9] ?_)
    | (with_reducible refine AW_regionP 10 [1, 2, 8, 9, 10] ?_)
    | (with_reducible refine AW_regionP 11 [1, 2, 8, 9, 10] ?_)
    | (with_reducible refine AW_regionP 12 [1, 2, 8, 9, 10] ?_)
    | (with_reducible refine AW_regionP 13 [1, 2, 8, 9] ?_)
    | (with_reducible refine AW_regionP 14 [8] ?_)
    | (refine callN_q (k := 17) fnok_17 (rvalid_p _ _ _ _ _) ?_ ?_)
    | (refine callN_q (k := 58) fnok_58 (need_p _) ?_ ?_)
    | (refine callN_q (k := 55) fnok_55 (rlast_p _ _ _ _ _) ?_ ?_)
    | ((fail_if_success (with_reducible show AW _ _ _ _)); simp (maxSteps := 2000000) only [go_sem, reduceIte, reduceCtorEq, Nat.reduceAdd, Nat.reduceLT, Nat.reduceLeDiff, Nat.reduceEqDiff, Nat.reduceMul, Nat.reduceSub, Nat.reduceBEq, Try.f21, ty_24, fnok_17, fnok_58, of_24_0, ty_3, fnok_55, le_22, fnok_56, fd_31_0, sl_22, ar_22, of_31_1, zc_31, fo_31, pl_31_0, pl_31_1])
    | ((fail_if_success (with_reducible show AW _ _ _ _)); simp (disch := omega) only [seaWrap, seaDiv, seaMod])
    | ((with_reducible refine hK _ ?_); clear hK K))
  all_goals (first | (simp_all; done) | (simp_all; omega))

set_option maxRecDepth 100000 in
set_option maxHeartbeats 16000000 in
theorem rwindows_0 (s st : Int) (n : Nat) (lo hi : Nat → Int) (need : Int) (hv0 : tval s st n lo hi = true) (hn0 : nd need = true) : CallsP Try.prog 21 [tideP s st n lo hi, .one (.g (.int .i64 (need)))] (.tup [.one (.lst 2 (WS s st n lo hi need).length (spanF (L1 (WS s st n lo hi need)) (L2 (WS s st n lo hi need)))), .one (.g (.int .i64 (0)))]) := by
  have hv := tval_tv hv0
  have hsx : True := trivial
  have hxw : True := trivial
  refine CallsP_of Try.func21 rfl (by rw [Try.ntmps21]; simp) ?_
  simp only [Try.ntmps21, List.map_cons, List.map_nil, PT.tv, argEnv, Nat.zero_add, Nat.reduceAdd]
  repeat' (first
    | (with_reducible refine callGK_f0 ?_)
    | (with_reducible refine AW_seq_k fun K hK => ?_)
    | ((first | (with_reducible refine And.intro ?_ ?_) | (with_reducible refine Need.mk ?_)); focus (first | exact True.intro | (with_reducible assumption) | omega | (refine ⟨?_, ?_⟩ <;> omega) | (intro _; first | exact True.intro | (with_reducible assumption) | omega) | (intros; (repeat' (first | exact True.intro | omega | (with_reducible assumption) | (with_reducible refine And.intro ?_ ?_))); done) | (simp (disch := omega) only [Bool.and_eq_true, Bool.or_eq_true, decide_eq_true_eq, bne_iff_ne, ne_eq] at *; first | done | omega | (intros; omega)) | (simp; done) | (simp; omega) | (simp +contextual; done) | (intro h; rw [h]; rfl) | (intros; simp_all; done)))
    | (with_reducible refine AW_skip ?_)
    | (with_reducible refine AW_exit ?_)
    | (with_reducible refine AW_ret ?_)
    | (with_reducible refine retK_n ?_)
    | (with_reducible refine retK_n' ?_)
    | (with_reducible refine retH_n rfl rfl rfl ?_)
    | (with_reducible refine retH_n' rfl rfl rfl ?_)
    | (with_reducible refine AW_condI ?_)
    | (with_reducible refine AW_block ?_)
    | ((with_reducible refine condN_t ?_ ?_) <;> (intro hc; (try simp only [Bool.and_eq_true, Bool.or_eq_true, Bool.not_eq_true', Bool.and_eq_false_iff, Bool.or_eq_false_iff, decide_eq_true_eq, decide_eq_false_iff_not, bne_iff_ne, beq_iff_eq, reduceCtorEq, bne_eq_false_iff_eq, beq_eq_false_iff_ne, Bool.not_eq_false', Int.not_le, Int.not_lt, Bool.not_not] at hc); (try (exfalso; first | contradiction | omega))))
    | (with_reducible refine AW_regionP 0 [0, 1] ?_)
    | (with_reducible refine AW_regionP 1 [1, 2] ?_)
    | (with_reducible refine AW_regionP 2 [1, 2, 6] ?_)
    | (with_reducible refine AW_regionP 3 [1, 2, 6, 7] ?_)
    | (with_reducible refine AW_regionP 4 [] ?_)
    | (with_reducible refine AW_regionP 5 [1, 2] ?_)
    | (with_reducible refine AW_regionP 6 [1, 2, 8] ?_)
    | (with_reducible refine AW_regionP 7 [1, 2, 8, 9] ?_)
    | (with_reducible refine AW_regionP 8 [1, 2, 8, 9] ?_)
    | (with_reducible refine AW_regionP 9 [1, 2, 8, 9] ?_)
    | (with_reducible refine AW_regionP 10 [1, 2, 8, 9, 10] ?_)
    | (with_reducible refine AW_regionP 11 [1, 2, 8, 9, 10] ?_)
    | (with_reducible refine AW_regionP 12 [1, 2, 8, 9, 10] ?_)
    | (with_reducible refine AW_regionP 13 [1, 2, 8, 9] ?_)
    | (with_reducible refine AW_regionP 14 [8] ?_)
    | (refine callN_q (k := 17) fnok_17 (rvalid_p _ _ _ _ _) ?_ ?_)
    | (refine callN_q (k := 58) fnok_58 (need_p _) ?_ ?_)
    | (refine callN_q (k := 55) fnok_55 (rlast_v hv0) ?_ ?_)
    | (refine callN_q (k := 56) fnok_56 (rat_p hv0 (by omega) (by omega)) ?_ ?_)
    | ((with_reducible refine AW_loopQ (c := (Code.seq (Code.seq (Code.region 7 _ _) _) _)) (ι := Nat) [1, 2] (fun k => [(8, .t (.one (.slc 1 0 (win need (mins (hL s st lo) s k)).length 2))), (9, iA .i64 (s + (k : Int)))]) (fun k => [(1, rowW (win need (mins (hL s st lo) s k)))]) (fun k => s + (k : Int) ≤ s + ((n : Int) - 1) * st + 1) (fun k => (s + ((n : Int) - 1) * st + 1 - s - k).toNat) 0 ?lg7 ?l17 ?l27 ?li7 ?lr7); (case' lg7 => rintro k _); (case' li7 => try (have := hv.n0; have := prod_bd hv.n0 hv.n1 hv.st0 hv.st1; omega)); (case' lr7 => rintro k hk KR hR7; (obtain ⟨ws, hW, hw1, hw2⟩ := wm_ok hv0 hn0 hk); (rcases wm_round hv hk with hge | ⟨hlt, ⟨hs0, hx1⟩, ⟨p1, p2, p3⟩⟩); (all_goals simp only [hW]); (all_goals (have hsx0 := hsx; clear hsx; rcases wsx hw1 with ⟨hz, hsx⟩ | ⟨hz, hsx⟩)); (all_goals try have hxw := xw hs0 hx1); simp only [keepE, hupd, hset, lk, if_true, if_false, Nat.reduceEqDiff, reduceIte, List.cons_append, List.nil_append, spanF0, spanF1, hv0, hn0, hsx, hxw, decide_true, decide_false, rowW_push, rowW_purge, rowW_len, List.length_append, List.length_singleton, maxLen]))
    | ((with_reducible refine hR7 _ (k + 1) ?_); (try clear hR7 KR))
    | ((with_reducible refine Told.mk ?_); simp only [go_sem, reduceIte, reduceCtorEq, Nat.reduceAdd, Nat.reduceLT, Nat.reduceLeDiff, Nat.reduceEqDiff, Nat.reduceMul, Nat.reduceSub, Nat.reduceBEq, spanF0, spanF1, hv0, hn0, hsx, hxw, decide_true, decide_false, rowW_push, rowW_purge, rowW_len, List.length_append, List.length_singleton, maxLen] <;> (first | exact True.intro | ((repeat' (first | exact True.intro | omega | (with_reducible assumption) | (with_reducible refine And.intro ?_ ?_) | (exact wkC_eq rfl (rowW_iv _)) | (rw [mins_s]; (simp (disch := omega) only [hW, addW_skip, addW_setX, addW_pushX, List.length_append, List.length_singleton, setLast_len, seaWrap])) | (simp (disch := omega) only [seaWrap, Int.natCast_add, Int.cast_ofNat_Int, setLast_len, List.length_append, List.length_singleton]))); done) | (simp [win, mins, rowW, wkC]) | (refine Stuck.out ?_)))
    | ((fail_if_success (with_reducible show AW _ _ _ _)); simp (maxSteps := 2000000) only [go_sem, reduceIte, reduceCtorEq, Nat.reduceAdd, Nat.reduceLT, Nat.reduceLeDiff, Nat.reduceEqDiff, Nat.reduceMul, Nat.reduceSub, Nat.reduceBEq, Try.f21, ty_24, fnok_17, fnok_58, of_24_0, ty_3, fnok_55, le_22, fnok_56, fd_31_0, sl_22, ar_22, of_31_1, zc_31, fo_31, pl_31_0, pl_31_1, spanF0, spanF1, hv0, hn0, hsx, hxw, decide_true, decide_false, rowW_push, rowW_purge, rowW_len, List.length_append, List.length_singleton, maxLen])
    | ((fail_if_success (with_reducible show AW _ _ _ _)); simp (disch := omega) only [seaWrap, seaDiv, seaMod, rowW_last, rowW_last_set, rowW_setL, rowW_setS, setLast_len])
    | ((with_reducible refine hK _ ?_); clear hK K)
    | (with_reducible apply_assumption -exfalso))
  all_goals (have e := wm_end hv0 hn0 (k := k) (by omega); rw [hW] at e; subst e; exact ⟨fun c hc => rowW_iv _ c hc, rfl, fun i o hi ho => rowW_eqv2 _ i o hi ho⟩)

theorem rwindows_p (s st : Int) (n : Nat) (lo hi : Nat → Int) (need : Int) : CallsP Try.prog 21 [tideP s st n lo hi, .one (.g (.int .i64 (need)))] (.tup [.one (.lst 2 (WS s st n lo hi need).length (spanF (L1 (WS s st n lo hi need)) (L2 (WS s st n lo hi need)))), .one (.g (.int .i64 (WE s st n lo hi need)))]) := by
  cases h : (tval s st n lo hi && nd need) with
  | false =>
    have e1 : WS s st n lo hi need = [] := by unfold WS; rw [h]; rfl
    have e2 : WE s st n lo hi need = 1 := by unfold WE; rw [h]; rfl
    rw [e1, e2]; exact rwindows_1 s st n lo hi need h
  | true =>
    simp only [Bool.and_eq_true] at h
    rw [we_0 h.1 h.2]
    exact rwindows_0 s st n lo hi need h.1 h.2

theorem rnx_v (a f : Int) : max f a = max a f := by omega

set_option maxRecDepth 100000 in
set_option maxHeartbeats 4000000 in
theorem rnext_p (s st : Int) (n : Nat) (lo hi : Nat → Int) (need f long : Int) : CallsP Try.prog 23 [tideP s st n lo hi, .one (.g (.int .i64 (need))), .one (.g (.int .i64 (f))), .one (.g (.int .i64 (long)))] (.tup [.one (.g (.int .i64 (NV s st n lo hi need f long))), .one (.g (.int .i64 (NE s st n lo hi need f long)))]) := by
  refine CallsP_of Try.func23 rfl (by rw [Try.ntmps23]; simp) ?_
  simp only [Try.ntmps23, List.map_cons, List.map_nil, PT.tv, argEnv, Nat.zero_add, Nat.reduceAdd]
  repeat' (first
    | (with_reducible refine AW_seq_k fun K hK => ?_)
    | ((first | (with_reducible refine And.intro ?_ ?_) | (with_reducible refine Need.mk ?_)); focus (first | exact True.intro | (with_reducible assumption) | omega | (refine ⟨?_, ?_⟩ <;> omega) | (intro _; first | exact True.intro | (with_reducible assumption) | omega) | (intros; (repeat' (first | exact True.intro | omega | (with_reducible assumption) | (with_reducible refine And.intro ?_ ?_))); done) | (simp (disch := omega) only [Bool.and_eq_true, Bool.or_eq_true, decide_eq_true_eq, bne_iff_ne, ne_eq] at *; first | done | omega | (intros; omega)) | (simp; done) | (simp; omega) | (simp +contextual; done) | (intro h; rw [h]; rfl) | (intros; simp_all; done)))
    | (with_reducible refine AW_skip ?_)
    | (with_reducible refine AW_exit ?_)
    | (with_reducible refine AW_ret ?_)
    | (with_reducible refine retK_n ?_)
    | (with_reducible refine retK_n' ?_)
    | (with_reducible refine retH_n rfl rfl rfl ?_)
    | (with_reducible refine retH_n' rfl rfl rfl ?_)
    | (with_reducible refine AW_condI ?_)
    | (with_reducible refine AW_block ?_)
    | ((with_reducible refine condN_t ?_ ?_) <;> (intro hc; (try simp only [Bool.and_eq_true, Bool.or_eq_true, Bool.not_eq_true', Bool.and_eq_false_iff, Bool.or_eq_false_iff, decide_eq_true_eq, decide_eq_false_iff_not, bne_iff_ne, beq_iff_eq, reduceCtorEq, bne_eq_false_iff_eq, beq_eq_false_iff_ne, Bool.not_eq_false', Int.not_le, Int.not_lt, Bool.not_not] at hc); (skip); (try (exfalso; first | contradiction | omega))))
    | (with_reducible refine AW_regionP 0 [0, 1, 2, 3] ?_)
    | (with_reducible refine AW_regionP 1 [1, 2, 3, 4] ?_)
    | (with_reducible refine AW_regionP 2 [2, 3, 10, 11] ?_)
    | (with_reducible refine AW_regionP 3 [2, 3, 10, 11, 12] ?_)
    | (with_reducible refine AW_regionP 4 [2, 3, 10, 11, 12, 13] ?_)
    | (with_reducible refine AW_regionP 5 [] ?_)
    | (with_reducible refine AW_regionP 6 [2, 3, 10] ?_)
    | (with_reducible refine AW_regionP 7 [2, 3, 10, 14] ?_)
    | (with_reducible refine AW_regionP 8 [2, 3, 10, 14] ?_)
    | (with_reducible refine AW_regionP 9 [2, 3, 10, 14] ?_)
    | (with_reducible refine AW_regionP 10 [2, 3, 10, 14, 15] ?_)
    | (with_reducible refine AW_regionP 11 [15] ?_)
    | (with_reducible refine AW_regionP 12 [] ?_)
    | (refine callN_q (k := 21) fnok_21 (rwindows_p _ _ _ _ _ _) ?_ ?_)
    | (refine callN_q (k := 50) fnok_50 (rTime_p _) ?_ ?_)
    | ((with_reducible refine AW_loopQ (c := (Code.seq (Code.seq (Code.region 7 _ _) _) _)) (ι := Nat) [2, 3, 10] (fun k => [(14, iA .i64 (k : Int))]) (fun k => []) (fun k => k ≤ (WS s st n lo hi need).length ∧ (∀ j, j < k → nxC (L1 (WS s st n lo hi need)) (L2 (WS s st n lo hi need)) f long j = false)) (fun k => (WS s st n lo hi need).length - k) 0 ?lg7 ?l17 ?l27 ?li7 ?lr7); (case' lg7 => rintro k _); (case' li7 => try (exact ⟨Nat.zero_le _, fun i hi => absurd hi (Nat.not_lt_zero _)⟩)); (case' lr7 => rintro k ⟨h1, h2⟩ KR hR7; (have ht := tm_bd (‹(WE s st n lo hi need = 0 ∧ tm f = true) ∧ tm long = true›.2)); (have ht2 := tm_bd (‹(WE s st n lo hi need = 0 ∧ tm f = true) ∧ tm long = true›.1.2)); rcases nx_round (s := s) (st := st) (n := n) (lo := lo) (hi := hi) (need := need) (k := k) with hge | ⟨hlt, hw1, hw2, hw3, hw4⟩; simp only [keepE, hupd, hset, lk, if_true, if_false, Nat.reduceEqDiff, reduceIte, List.cons_append, List.nil_append, spanF0, spanF1]))
    | ((with_reducible refine hR7 _ (k + 1) ?_); (try clear hR7 KR))
    | ((with_reducible refine Told.mk ?_); simp only [go_sem, reduceIte, reduceCtorEq, Nat.reduceAdd, Nat.reduceLT, Nat.reduceLeDiff, Nat.reduceEqDiff, Nat.reduceMul, Nat.reduceSub, Nat.reduceBEq, spanF0, spanF1] <;> (first | exact True.intro | ((try simp (disch := omega) only [seaWrap, Int.natCast_add, Int.cast_ofNat_Int, and_true, true_and, and_self]); (repeat' (first | exact True.intro | omega | (with_reducible assumption) | (with_reducible refine And.intro ?_ ?_) | (exact all_succ (by assumption) (nxC_f (by omega))))); done) | (refine Stuck.out ?_)))
    | ((fail_if_success (with_reducible show AW _ _ _ _)); simp (maxSteps := 2000000) only [go_sem, reduceIte, reduceCtorEq, Nat.reduceAdd, Nat.reduceLT, Nat.reduceLeDiff, Nat.reduceEqDiff, Nat.reduceMul, Nat.reduceSub, Nat.reduceBEq, Try.f23, ty_24, fnok_21, fnok_50, le_22, sl_22, ar_22, of_31_0, ty_3, of_31_1, spanF0, spanF1])
    | ((fail_if_success (with_reducible show AW _ _ _ _)); simp (disch := omega) only [seaWrap, seaDiv, seaMod])
    | ((with_reducible refine hK _ ?_); clear hK K)
    | (with_reducible apply_assumption -exfalso))
  all_goals (first | (obtain ⟨e1, e2⟩ := next_1 (s := s) (st := st) (n := n) (lo := lo) (hi := hi) (need := need) (f := f) (long := long) (by assumption); rw [e1, e2]; exact ⟨rfl, rfl⟩) | (obtain ⟨e1, e2⟩ := next_k (k := k) (by assumption) (by omega) (by assumption) (by omega); rw [e1, e2, rnx_v]; exact ⟨rfl, rfl⟩) | (obtain ⟨e1, e2⟩ := next_n (k := k) (by assumption) (by omega) (by assumption); rw [e1, e2]; exact ⟨rfl, rfl⟩))

end Go.Proofs.Ythfnmooeijneoaa
