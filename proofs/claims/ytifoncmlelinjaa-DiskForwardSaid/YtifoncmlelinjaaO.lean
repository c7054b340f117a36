/- O: walks on abstract states. -/
import Derived.Test.YtifoncmlelinjaaN
set_option linter.unusedVariables false
set_option linter.unusedSimpArgs false
namespace Go.Proofs.Ytifoncmlelinjaa
open Go.RowKit Go.Sea
attribute [local go_sem] callK_N gf gk gdrop lkL setL lsF ltAll rdyL bodyF roundQ roundS loopQ loopS jumpOf inLs yV yA bAV zipPut purgeG_nil purgeG_cons List.tail_cons Option.isNone_none Option.isNone_some callGK_f callDK_f callDGK_f retN retHN blockA arun_nil arun_plain arun_guard plainF guardF guardB arunD_nil arunD_plain arunD_guard plainDF guardDF guardDB AS.ent Eff.noApp Eff.tgt ftF AV.refs TV.refs CV.refs LV.refs Op.operands Call.operands List.append_toArray List.push_toArray List.flatMap_cons List.flatMap_nil List.toList_toArray Option.toArray nidF nidA List.reverse_cons List.reverse_nil opF AS.ev constA lk AS.get AV.tv AV.nd AS.eff AS.put argEnv PT.tv PV.av AV.mbOf hset hget TV.cells dstOk thenA gB isB toB TV.bool? TV.int? intF loadF storeF fieldF indexF lenF sliceF optI appF minmaxF ipCells fillF partsF lvsF TV.lv LV.tv purgeE purgeC purgeH AV.purge CV.purge AV.has TV.has CV.has LV.has calleeF argsF tvsF toPT toIV toIVs toPTs toPV iA bA List.map_cons List.map_nil List.length_nil List.length_cons List.getElem?_cons_zero List.getElem?_cons_succ List.getElem?_nil Option.getD_some Option.getD_none Option.bind_some Option.bind_none List.take_succ_cons List.take_zero List.drop_succ_cons List.drop_zero List.take_nil List.drop_nil List.cons_append List.nil_append List.append_nil List.getD_cons_zero List.getD_cons_succ Option.map_some Option.map_none Option.isSome_some Option.isSome_none List.size_toArray List.any_cons List.any_nil List.mem_cons if_true if_false ite_true ite_false cond_true cond_false Nat.zero_add Nat.add_zero Nat.sub_zero Nat.le_refl Nat.zero_mul Nat.mul_zero Nat.one_mul Nat.mul_one Int.toNat_zero Int.toNat_natCast Bool.or_false Bool.false_or Bool.or_true Bool.true_or Bool.and_true Bool.true_and Bool.and_false Bool.false_and beq_self_eq_true beq_true beq_false Bool.not_true Bool.not_false and_true true_and and_false false_and and_self imp_self Bool.cond_false_right Bool.cond_true_left implies_true forall_const true_implies false_implies Option.some.injEq Prod.mk.injEq ne_eq not_false_eq_true not_true_eq_false eq_self Nat.lt_irrefl Nat.not_lt_zero op2F ncF slice3F offF slArrF copyF clearF toArrF callDK_t calleeT eqN barOp boF seaMin seaMax seaNat1 seaNat2 Value.bool.injEq Value.int.injEq srcF TV.dp IV.eqv PT.eqv PV.eqv All2 keepE hupd callZ_N AS.frz AS.frzW frzs frzsOk frzOk frzE frzA frzT frzC frzG frzH hdel cmpS eqF eqC gvs eqVs eqV decide_true resF tupA inlQ okL okGL okG nextL nextF barOpN AS.mv mvE mvG_nil mvG_cons mvH mvO AV.mv TV.mv CV.mv LV.mv famL_mv famL_purge famL_snoc famL_zero wkH wkC wkV nilA nilC AV.ok TV.ok CV.ok LV.ok okB forall_eq_or_imp forall_eq List.not_mem_nil List.mem_singleton true_or or_true or_false false_or or_self exists_prop AV.t.injEq TV.one.injEq CV.iv.injEq IV.g.injEq TV.agg.injEq List.cons.injEq repC_0 repC_1 repC_2 repC_3 rowV_len rowV_pur rowV_has rowV_frz frzC isIv_iv civ_iv rowV_all List.map_append retON AV.to TV.to CV.to
theorem ar_67 : arD Try.prog 67 = none := by kernel_rfl
theorem fnok_56 : fnOk Try.prog 56 = true := by kernel_rfl
theorem le_67 : lenD Try.prog 67 = some true := by kernel_rfl
theorem of_86_0 : offOf Try.prog 86 0 = some 0 := by kernel_rfl
theorem of_86_1 : offOf Try.prog 86 1 = some 1 := by kernel_rfl
theorem sl_67 : slD Try.prog 67 = some (2, 32, 86) := by kernel_rfl

theorem dn_facts (G : Nat → Nat → Int) (n s k : Nat) (hs : s < n) (hk : k < 64) : (rowsC 32 n).getD s .any = .slc (s + 32) 0 64 1 ∧ (famL (fun a j => .g (.int .u8 (G a j))) n)[s]? = some (some (rowV (fun j => .g (.int .u8 (G s j))) 64)) ∧ min k 64 = k ∧ k + 1 + (64 - (k + 1)) = 64 ∧
    ∀ g, hset (famL (fun a j => .g (.int .u8 (G a j))) n) s (rowV g 64) = famL (updF (fun a j => .g (.int .u8 (G a j))) s g) n :=
  ⟨rowsC_get hs, famL_at hs, by omega, by omega, fun g => famL_set hs g⟩
theorem dn_fin {D : Nat → Nat → Int} {S : Nat → Nat} {W : Nat → Nat → Int} {af i q s j : Nat} (h : q ≤ i ∨ af ≤ i * 64) (hi : i ≤ q) : dn D S W af i s j = dn D S W af q s j := by
  rcases h with h | h
  · obtain rfl : i = q := by omega
    rfl
  · exact (dn_stop D S W af i h q hi s j).symm
theorem dnK_0 (D : Nat → Nat → Int) (S : Nat → Nat) (W : Nat → Nat → Int) (af i a j : Nat) : (IV.g (.int .u8 (dn D S W af i a j))).eqv (.g (.int .u8 (dnK D S W af i 0 a j))) := u8_eqv (by unfold dnK; rw [if_neg (by omega)])
theorem dnK_s {D : Nat → Nat → Int} {S : Nat → Nat} {W : Nat → Nat → Int} {af i k a j : Nat} (hk : k < 64) (hj : j < 64) :
    (updF (fun a j => IV.g (Value.int IntKind.u8 (dnK D S W af i k a j))) (S i) (fun j => if j < k + 1 then if j < k then IV.g (Value.int IntKind.u8 (dnK D S W af i k (S i) j)) else IV.g (Value.int IntKind.u8 (W i k)) else IV.g (Value.int IntKind.u8 (dnK D S W af i k (S i) (k + 1 + (j - (k + 1)))))) a j).eqv (.g (.int .u8 (dnK D S W af i (k + 1) a j))) := by
  unfold updF
  by_cases h : a = S i
  · subst h
    rw [if_pos rfl]
    by_cases h1 : j < k + 1
    · rw [if_pos h1]
      by_cases h2 : j < k
      · rw [if_pos h2]; exact u8_eqv (by unfold dnK; rw [if_pos ⟨rfl, h2⟩, if_pos ⟨rfl, h1⟩])
      · obtain rfl : j = k := by omega
        rw [if_neg h2]; exact u8_eqv (by unfold dnK; rw [if_pos ⟨rfl, h1⟩])
    · rw [if_neg h1, show k + 1 + (j - (k + 1)) = j by omega]
      exact u8_eqv (by unfold dnK; rw [if_neg (by omega), if_neg (by omega)])
  · rw [if_neg h]
    exact u8_eqv (by unfold dnK; rw [if_neg (fun e => h e.1), if_neg (fun e => h e.1)])

set_option maxRecDepth 100000 in
set_option maxHeartbeats 4000000 in
theorem done_p (n : Nat) (m : Nat → Nat) (D : Nat → Nat → Int) (hn : n ≤ 63) (hm : ∀ i, i < n → m i = 64) (q : Nat) (S : Nat → Nat) (W : Nat → Nat → Int) (hq : q ≤ 1000) (hS : ∀ i, i < q → S i < n) (af : Nat) (haf : af ≤ 9223372036854775807) : CallsP Try.prog 43 [.agg [.lst 1 (n) (rowsI (m) (D))], .one (.lst 2 q (wrI S W)), .one (.g (.int .i64 ((af : Int))))] (.t (.agg [.lst 1 (n) (rowsI (c64) (dn D S W af q))])) := by
  have hz : True := trivial
  refine CallsP_of Try.func43 rfl (by rw [Try.ntmps43]; simp) ?_
  simp only [Try.ntmps43, List.map_cons, List.map_nil, PT.tv, argEnv, Nat.zero_add, Nat.reduceAdd]
  repeat' (first
    | ((with_reducible show AW _ (Code.region 13 _ false) _ _); (refine AW_fam (c := Code.region 13 _ false) (E := [(6, .t (.one (.ptr 1 0))), (7, .t (.one (.ptr 2 0)))]) (A := [some [.iv (.lst 1 n (rowsI m D))], some [.iv (.g (.slice none 0 0))], some [.slc 3 0 n 1]]) (B := [none, none, none, none, none, none, none, none, none, none, none, none, none, none, none, none, none, none, none, none, none, none, none, none, none, none, none, none]) (F := (fun a j => .g (.int .u8 (dn D S W af q a j)))) (b := 32) (n := n) rfl (by intro i cs hi; simp (disch := omega) only [keepE, lk, if_true, if_false, Nat.reduceEqDiff, reduceIte, frzE, frzH, frzA, frzT, frzC, if_neg, List.map_cons, List.map_nil, Option.map_some, Option.map_none, List.cons_append, List.nil_append]) (by intro i cs hi; simp (disch := omega) only [keepE, lk, if_true, if_false, Nat.reduceEqDiff, reduceIte, frzE, frzH, frzA, frzT, frzC, if_neg, List.map_cons, List.map_nil, Option.map_some, Option.map_none, List.cons_append, List.nil_append]) (by intro i cs hi; simp (disch := omega) only [keepE, lk, if_true, if_false, Nat.reduceEqDiff, reduceIte, frzE, frzH, frzA, frzT, frzC, if_neg, List.map_cons, List.map_nil, Option.map_some, Option.map_none, List.cons_append, List.nil_append]) (fun _ _ _ => rfl) (AW_frz [3] ?_ (AW_regionP 13 [6, 7] ?_))))
    | (with_reducible refine AW_litG (c := Code.region 2 _ false) [1, 2, 3, 6, 7] (some [.iv (.lst 1 n (rowsI m D))] :: some [.iv (.g (.slice none 0 0))] :: some [.iv (.g (.slice none 0 0))] :: none :: none :: none :: none :: none :: none :: none :: none :: none :: none :: none :: none :: none :: none :: none :: none :: none :: none :: none :: none :: none :: none :: none :: none :: none :: none :: none :: none :: none :: ([])) (GOk.nil _) ?_ ?_ (AW_regionP 2 [1, 2, 3, 6, 7] ?_))
    | (with_reducible refine AW_litG (c := Code.region 13 _ false) [6, 7] (some [.iv (.lst 1 n (rowsI m D))] :: some [.iv (.g (.slice none 0 0))] :: some [.slc 3 0 n 1] :: some (rowsC 32 n) :: none :: none :: none :: none :: none :: none :: none :: none :: none :: none :: none :: none :: none :: none :: none :: none :: none :: none :: none :: none :: none :: none :: none :: none :: none :: none :: none :: none :: (famL (fun a j => .g (.int .u8 (dn D S W af q a j))) n)) (GOk.nil _) ?_ ?_ ?fam13)
    | (with_reducible refine AW_seq_k fun K hK => ?_)
    | ((first | (with_reducible refine And.intro ?_ ?_) | (with_reducible refine Need.mk ?_)); focus (first | exact True.intro | (with_reducible assumption) | omega | (refine ⟨?_, ?_⟩ <;> omega) | (intro _; first | exact True.intro | (with_reducible assumption) | omega) | (intros; (repeat' (first | exact True.intro | omega | (with_reducible assumption) | (with_reducible refine And.intro ?_ ?_))); done) | (simp (disch := omega) only [Bool.and_eq_true, Bool.or_eq_true, decide_eq_true_eq, bne_iff_ne, ne_eq] at *; first | done | omega | (intros; omega)) | (simp; done) | (simp; omega) | (simp +contextual; done) | (intro h; rw [h]; rfl) | (intros; simp_all; done)))
    | (with_reducible refine AW_skip ?_)
    | (with_reducible refine AW_exit ?_)
    | (with_reducible refine AW_ret ?_)
    | (with_reducible refine retK_n ?_)
    | (with_reducible refine retK_n' ?_)
    | (with_reducible refine retH_n rfl rfl rfl ?_)
    | (with_reducible refine retH_n' rfl rfl rfl ?_)
    | (with_reducible refine retO_n ?_ ?_)
    | (with_reducible refine retO_n' ?_ ?_)
    | (with_reducible refine AW_condI ?_)
    | (with_reducible refine AW_block ?_)
    | ((with_reducible refine condN_t ?_ ?_) <;> (intro hc; (try simp only [Bool.and_eq_true, Bool.or_eq_true, Bool.not_eq_true', Bool.and_eq_false_iff, Bool.or_eq_false_iff, decide_eq_true_eq, decide_eq_false_iff_not, bne_iff_ne, beq_iff_eq, reduceCtorEq, bne_eq_false_iff_eq, beq_eq_false_iff_ne, Bool.not_eq_false', Int.not_le, Int.not_lt, Bool.not_not] at hc); ((try (have e0 : n = u := (by omega); subst e0)); (try (have hk6 : k < 64 := (by omega); have hsi := hS i (by omega); clear hz; have hz := dn_facts (dnK D S W af i k) n (S i) k hsi hk6))); (try (exfalso; first | contradiction | omega))))
    | (with_reducible refine AW_regionP 0 [0, 1, 2] ?_)
    | (with_reducible refine AW_regionP 1 [1, 2, 3, 6] ?_)
    | (with_reducible refine AW_regionP 2 [1, 2, 3, 6, 7] ?_)
    | (with_reducible refine AW_regionP 3 [1, 2, 3, 6, 7, 8] ?_)
    | (with_reducible refine AW_mv (c := Code.region 4 _ false) 19 (u + 32) (by simp [famL_len]) rfl (AW_regionP 4 [1, 2, 3, 6, 7, 8] ?_))
    | ((with_reducible refine AW_prune (c := Code.region 5 _ true) [1, 2, 3, 6, 7, 8] ?_); (with_reducible refine AW_regionBn 12 9 ?_ ?_ ?_ ?_ ?_ ?_); (focus kernel_rfl); (focus kernel_rfl); (focus kernel_rfl); (focus kernel_rfl); (focus kernel_rfl))
    | (with_reducible refine AW_regionP 6 [1, 2, 6, 7] ?_)
    | (with_reducible refine AW_regionP 7 [1, 2, 6, 7, 9] ?_)
    | (with_reducible refine AW_regionP 8 [1, 2, 6, 7, 9] ?_)
    | (with_reducible refine AW_regionP 9 [1, 2, 6, 7, 9] ?_)
    | (with_reducible refine AW_regionP 10 [1, 2, 6, 7, 9, 10] ?_)
    | (with_reducible refine AW_regionP 11 [1, 2, 6, 7, 9, 10] ?_)
    | ((with_reducible refine AW_prune (c := Code.region 12 _ true) [1, 2, 6, 7, 9, 10] ?_); (with_reducible refine AW_regionDn 5 (holes_of ?_) ?_ ?_ ?_ ?_); (focus kernel_rfl); (focus kernel_rfl); (focus kernel_rfl); (focus kernel_rfl))
    | (with_reducible refine AW_regionP 13 [6, 7] ?_)
    | ((with_reducible refine And.intro ?_ ?_); focus (first | ((with_reducible show chkS _ _ _ _ = true); kernel_rfl) | ((with_reducible show holesB _ _ _ = true); kernel_rfl)))
    | ((with_reducible refine And.intro ?_ ?_); focus ((with_reducible show chkR _ _ _ = true); kernel_rfl))
    | (refine callDN_nq (k := 56) fnok_56 (sector_0 (m u) (D u) (by have := hm u (by omega); omega) (by have := hm u (by omega); omega)) ?_ ?_)
    | ((with_reducible refine AW_loopF' (c := (Code.seq (Code.seq (Code.region 3 _ _) _) _)) (ι := Nat) [1, 2, 3, 6, 7] (fun u => [(8, iA .i64 (u : Int))]) (fun u => (some [.iv (.lst 1 n (rowsI m D))] :: some [.iv (.g (.slice none 0 0))] :: some [.slc 3 0 (u) 1] :: some (rowsC 32 (u)) :: none :: none :: none :: none :: none :: none :: none :: none :: none :: none :: none :: none :: none :: none :: none :: none :: none :: none :: none :: none :: none :: none :: none :: none :: none :: none :: none :: none :: (famL (fun a j => .g (.int .u8 (D a j))) (u)))) (fun u => u ≤ n) (fun u => n - u) 0 ?lg3 ?l13 ?l23 ?li3 ?lr3); (case' lg3 => rintro u _; exact GOk.nil _); (case' li3 => try (first | trivial | omega | (simp; done) | (simp; omega))); (case' lr3 => rintro u hu KR hR3; have hmk := hm u; have hpr := rowsC_pur (a := 3) (B := 32) (n := u) (by omega); have hmv := rowsC_mv (a := 19) (b := u + 32) (B := 32) (n := u) (by omega); clear hz; have hz := And.intro hpr hmv; simp only [keepE, hupd, hset, lk, if_true, if_false, Nat.reduceEqDiff, reduceIte, List.cons_append, List.nil_append, bytI, rowsI, wrI, lstC_row, maxLen, rowsC_len, rowV_mv, rowV_take, rowV_drop, rowV_zero, rowV_app, rowV_app1, Nat.zero_min, Nat.min_self, hz]))
    | ((with_reducible refine hR3 _ (u + 1) ?_); (try clear hR3 KR))
    | ((with_reducible refine AW_loopF' (c := (Code.seq (Code.seq (Code.region 7 _ _) _) _)) (ι := Nat) [1, 2, 6, 7] (fun i => [(9, iA .i64 (i : Int))]) (fun i => (some [.iv (.lst 1 n (rowsI m D))] :: some [.iv (.g (.slice none 0 0))] :: some [.slc 3 0 n 1] :: some (rowsC 32 n) :: none :: none :: none :: none :: none :: none :: none :: none :: none :: none :: none :: none :: none :: none :: none :: none :: none :: none :: none :: none :: none :: none :: none :: none :: none :: none :: none :: none :: (famL (fun a j => .g (.int .u8 (dn D S W af i a j))) n))) (fun i => i ≤ q) (fun i => q - i) 0 ?lg7 ?l17 ?l27 ?li7 ?lr7); (case' lg7 => rintro i _; exact GOk.nil _); (case' li7 => try (first | trivial | omega | (simp; done) | (simp; omega))); (case' lr7 => rintro i hi KR hR7; skip; simp only [keepE, hupd, hset, lk, if_true, if_false, Nat.reduceEqDiff, reduceIte, List.cons_append, List.nil_append, bytI, rowsI, wrI, lstC_row, maxLen, rowsC_len, rowV_mv, rowV_take, rowV_drop, rowV_zero, rowV_app, rowV_app1, Nat.zero_min, Nat.min_self, hz]))
    | ((with_reducible refine hR7 _ (i + 1) ?_); (try clear hR7 KR))
    | ((with_reducible refine AW_loopF' (c := (Code.seq (Code.seq (Code.region 10 _ _) _) _)) (ι := Nat) [1, 2, 6, 7, 9] (fun k => [(10, iA .i64 (k : Int))]) (fun k => (some [.iv (.lst 1 n (rowsI m D))] :: some [.iv (.g (.slice none 0 0))] :: some [.slc 3 0 n 1] :: some (rowsC 32 n) :: none :: none :: none :: none :: none :: none :: none :: none :: none :: none :: none :: none :: none :: none :: none :: none :: none :: none :: none :: none :: none :: none :: none :: none :: none :: none :: none :: none :: (famL (fun a j => .g (.int .u8 (dnK D S W af i k a j))) n))) (fun k => k ≤ 64 ∧ ∀ j, j < k → i * 64 + j < af) (fun k => 64 - k) 0 ?lg10 ?l110 ?l210 ?li10 ?lr10); (case' lg10 => rintro k _; exact GOk.nil _); (case' li10 => try exact ⟨by omega, fun j hj => absurd hj (Nat.not_lt_zero _)⟩); (case' lr10 => rintro k ⟨hk, hk2⟩ KR hR10; skip; simp only [keepE, hupd, hset, lk, if_true, if_false, Nat.reduceEqDiff, reduceIte, List.cons_append, List.nil_append, bytI, rowsI, wrI, lstC_row, maxLen, rowsC_len, rowV_mv, rowV_take, rowV_drop, rowV_zero, rowV_app, rowV_app1, Nat.zero_min, Nat.min_self, hz]))
    | ((with_reducible refine hR10 _ (k + 1) ?_); (try clear hR10 KR))
    | ((with_reducible refine Told.mk ?_); simp only [go_sem, reduceIte, reduceCtorEq, Nat.reduceAdd, Nat.reduceLT, Nat.reduceLeDiff, Nat.reduceEqDiff, Nat.reduceMul, Nat.reduceSub, Nat.reduceBEq, bytI, rowsI, wrI, lstC_row, maxLen, rowsC_len, rowV_mv, rowV_take, rowV_drop, rowV_zero, rowV_app, rowV_app1, Nat.zero_min, Nat.min_self, hz] <;> (first | exact True.intro | (((try simp (disch := omega) only [seaWrap, Int.natCast_add, Int.cast_ofNat_Int, and_true, true_and, and_self]); (repeat' (first | exact True.intro | omega | rfl | (with_reducible assumption) | (with_reducible refine And.intro ?_ ?_) | (exact all_succ (by assumption) (by assumption)) | (exact wkC_same _ _) | (exact wkH_famR _ _) | (exact wkC_rows fun k hk => okB_fam hk) | (exact wkC_eq rfl (by simp [isIv]; done)) | (exact wkC_any rfl) | ((rw [hmk (by omega), rowsC_snoc]; exact wkC_rows fun k hk => okB_fam hk)) | ((rw [hmk (by omega)]; exact wkH_snoc fun j hj => rfl)) | (exact wkH_snoc fun j hj => rfl) | ((rw [rowsC_snoc]; exact wkC_rows fun k hk => okB_fam hk)) | (exact wkH_fam _ fun a ha j hj => dnK_0 _ _ _ _ _ _ _) | (exact wkH_fam _ fun a ha j hj => dnK_s (by omega) hj) | (exact wkH_fam _ fun a ha j hj => u8_eqv (dnK_end (by omega) (by omega) (by assumption) hj)) | (exact wkH_fam _ fun a ha j hj => u8_eqv (dn_fin (by omega) (by omega))))); done)) | (refine Stuck.out ?_)))
    | ((fail_if_success (with_reducible show AW _ _ _ _)); simp (maxSteps := 2000000) only [go_sem, reduceIte, reduceCtorEq, Nat.reduceAdd, Nat.reduceLT, Nat.reduceLeDiff, Nat.reduceEqDiff, Nat.reduceMul, Nat.reduceSub, Nat.reduceBEq, Try.f43, zc_24, fo_24, ty_24, of_24_0, ty_22, le_22, sl_22, ar_22, ty_25, fnok_56, zc_25, le_67, sl_67, ar_67, of_86_0, ty_3, of_86_1, sl_25, ar_25, ty_5, bytI, rowsI, wrI, lstC_row, maxLen, rowsC_len, rowV_mv, rowV_take, rowV_drop, rowV_zero, rowV_app, rowV_app1, Nat.zero_min, Nat.min_self, hz])
    | ((fail_if_success (with_reducible show AW _ _ _ _)); simp (disch := omega) only [seaWrap, seaDiv, seaMod])
    | ((with_reducible refine hK _ ?_); clear hK K)
    | (with_reducible apply_assumption -exfalso only [*]))
  all_goals (exact fun i o hi ho => famR_eqv _ _ _ _ hi ho)

end Go.Proofs.Ytifoncmlelinjaa
