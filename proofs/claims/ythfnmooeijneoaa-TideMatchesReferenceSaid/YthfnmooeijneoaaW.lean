/- W: walks on abstract states. -/
import Derived.Test.YthfnmooeijneoaaU
import Derived.Test.YthfnmooeijneoaaM
set_option linter.unusedVariables false
set_option linter.unusedSimpArgs false
namespace Go.Proofs.Ythfnmooeijneoaa
open Go.RowKit Go.Sea
attribute [local go_sem] callK_N gf gk gdrop lkL setL lsF ltAll rdyL bodyF roundQ roundS loopQ loopS jumpOf inLs yV yA bAV zipPut purgeG List.tail_cons Option.isNone_none Option.isNone_some callGK_f callDK_f callDGK_f retN retHN blockA arun_nil arun_plain arun_guard plainF guardF guardB arunD_nil arunD_plain arunD_guard plainDF guardDF guardDB AS.ent Eff.noApp Eff.tgt ftF AV.refs TV.refs CV.refs LV.refs Op.operands Call.operands List.append_toArray List.push_toArray List.flatMap_cons List.flatMap_nil List.toList_toArray Option.toArray List.reverse_cons List.reverse_nil opF AS.ev constA lk AS.get AV.tv AV.nd AS.eff AS.put argEnv PT.tv PV.av AV.mbOf hset hget TV.cells dstOk thenA gB isB toB TV.bool? TV.int? intF loadF storeF fieldF indexF lenF sliceF optI appF minmaxF ipCells fillF repC partsF lvsF TV.lv LV.tv purgeE purgeC purgeH AV.purge CV.purge AV.has TV.has CV.has LV.has calleeF argsF tvsF toPT toIV toIVs toPTs toPV civ isIv iA bA List.map_cons List.map_nil List.length_nil List.length_cons List.getElem?_cons_zero List.getElem?_cons_succ List.getElem?_nil Option.getD_some Option.getD_none Option.bind_some Option.bind_none List.take_succ_cons List.take_zero List.drop_succ_cons List.drop_zero List.take_nil List.drop_nil List.cons_append List.nil_append List.append_nil List.getD_cons_zero List.getD_cons_succ Option.map_some Option.map_none Option.isSome_some Option.isSome_none List.size_toArray List.any_cons List.any_nil List.mem_cons if_true if_false ite_true ite_false cond_true cond_false Nat.zero_add Nat.add_zero Nat.sub_zero Nat.le_refl Nat.zero_mul Nat.mul_zero Nat.one_mul Nat.mul_one Int.toNat_zero Int.toNat_natCast Bool.or_false Bool.false_or Bool.or_true Bool.true_or Bool.and_true Bool.true_and Bool.and_false Bool.false_and beq_self_eq_true beq_true beq_false Bool.not_true Bool.not_false and_true true_and and_false false_and and_self imp_self Bool.cond_false_right Bool.cond_true_left implies_true forall_const true_implies false_implies Option.some.injEq Prod.mk.injEq ne_eq not_false_eq_true not_true_eq_false eq_self Nat.lt_irrefl Nat.not_lt_zero boF seaMin seaMax seaNat1 seaNat2 Value.bool.injEq Value.int.injEq srcF lstC TV.dp IV.eqv PT.eqv PV.eqv All2 keepE hupd callZ_N AS.frz AS.frzW frzs frzsOk frzOk frzE frzA frzT frzC frzG frzH hdel cmpS eqF eqC gvs eqVs eqV decide_true resF tupA inlQ okL okGL okG nextL wkH wkC wkV nilA nilC AV.ok TV.ok CV.ok LV.ok okB forall_eq_or_imp forall_eq List.not_mem_nil List.mem_singleton true_or or_true or_false false_or exists_prop AV.t.injEq TV.one.injEq CV.iv.injEq IV.g.injEq TV.agg.injEq List.cons.injEq
theorem fnok_59 : fnOk Try.prog 59 = true := by kernel_rfl
theorem fnok_60 : fnOk Try.prog 60 = true := by kernel_rfl
theorem fnok_61 : fnOk Try.prog 61 = true := by kernel_rfl
theorem fnok_62 : fnOk Try.prog 62 = true := by kernel_rfl
theorem fnok_63 : fnOk Try.prog 63 = true := by kernel_rfl
theorem fnok_83 : fnOk Try.prog 83 = true := by kernel_rfl
theorem fnok_84 : fnOk Try.prog 84 = true := by kernel_rfl

theorem callDK_t {P : Program} {gs : List (Option Nat)} {n0 i : Nat} {d : Option Tmp} {t : Tmp} {args : Array Operand} {tys : Array TypeId} {ty : TypeId} {pos : String} {aft : Array Edge} {g : Option (Nat × Bool)} {os : List Oper} {s : AS} {lg : Lg} {K' : Lg → AS → Prop} : callDK P gs n0 i ⟨d, .call ⟨.value (.tmp t), args, tys⟩, ty, pos, aft, g⟩ os s lg K' = callDN P gs n0 i d os s lg K' (calleeF (s.get t)) (argsF s.ev (hget s.heap) args.toList) (ftF s ⟨d, .call ⟨.value (.tmp t), args, tys⟩, ty, pos, aft, g⟩) := by
  unfold callDK callD callDN
  simp only [AS.ev]
  cases calleeF (s.get t) <;> rfl
def fW (l h : Nat → Int) (k : Nat) : List (Int × Int) := (List.range k).map fun i => (l i, h i)
theorem fW_0 (l h : Nat → Int) : fW l h 0 = [] := rfl
theorem fW_s (l h : Nat → Int) (k : Nat) : fW l h (k + 1) = fW l h k ++ [(l k, h k)] := by simp [fW, List.range_succ]
theorem fW_len (l h : Nat → Int) (k : Nat) : (fW l h k).length = k := by simp [fW]
theorem fW_get (l h : Nat → Int) (k i : Nat) (hi : i < k) : L1 (fW l h k) i = l i ∧ L2 (fW l h k) i = h i := by
  simp [L1, L2, fW, hi]
theorem fW_eqv (l h : Nat → Int) (k i o : Nat) (hi : i < k) (ho : o < 2) : (civ ((rowW (fW l h k)).getD (i * 2 + o) .any)).eqv (spanF l h i o) := by
  have e := rowW_eqv2 (fW l h k) i o (by rw [fW_len]; exact hi) ho
  obtain ⟨a, b⟩ := fW_get l h k i hi
  match o, ho with
  | 0, _ => rw [spanF0, a] at e; exact e
  | 1, _ => rw [spanF1, b] at e; exact e
def mgoB (n : Nat) (lo hi lo' hi' : Nat → Int) : Bool := decide (∀ i, i < n → mE (lo i) (hi i) (lo' i) (hi' i) = 0)
theorem mgoB_t {n k : Nat} {lo hi lo' hi' : Nat → Int} (hk : (n : Int) ≤ k) (h : ∀ i, i < k → mE (lo i) (hi i) (lo' i) (hi' i) = 0) : mgoB n lo hi lo' hi' = true := decide_eq_true fun i hi => h i (by omega)
theorem mgoB_f {n k : Nat} {lo hi lo' hi' : Nat → Int} (hk : (k : Int) < n) (h : mE (lo k) (hi k) (lo' k) (hi' k) ≠ 0) : mgoB n lo hi lo' hi' = false := decide_eq_false fun h' => h (h' k (by omega))

set_option maxRecDepth 100000 in
set_option maxHeartbeats 4000000 in
theorem each_m (n n' : Nat) (lo hi lo' hi' : Nat → Int) (hn : n ≤ n') (h200 : n ≤ 200) (hE : ∀ i, i < n → mE (lo i) (hi i) (lo' i) (hi' i) = 0 ∨ mE (lo i) (hi i) (lo' i) (hi' i) = 4) : CallsP Try.prog 83 [.one (.lst 2 n (spanF lo hi)), .one (.lst 2 n' (spanF lo' hi')), .one (.g (.func (.func 84) #[] #[]))] (.tup [.one (.lst 2 (bif mgoB n lo hi lo' hi' then n else 0) (spanF ((ml lo hi lo' hi')) ((mh lo hi lo' hi')))), .one (.g (.int .i64 (bif mgoB n lo hi lo' hi' then 0 else 4)))]) := by
  refine CallsP_of Try.func83 rfl (by rw [Try.ntmps83]; simp) ?_
  simp only [Try.ntmps83, List.map_cons, List.map_nil, PT.tv, argEnv, Nat.zero_add, Nat.reduceAdd]
  repeat' (first
    | (with_reducible refine AW_seq_k fun K hK => ?_)
    | ((first | (with_reducible refine And.intro ?_ ?_) | (with_reducible refine Need.mk ?_)); focus (first | exact True.intro | (with_reducible assumption) | omega | (refine ⟨?_, ?_⟩ <;> omega) | (intro _; first | exact True.intro | (with_reducible assumption) | omega) | (intros; (repeat' (first | exact True.intro | omega | (with_reducible assumption) | (with_reducible refine And.intro ?_ ?_))); done) | (simp (disch := omega) only [Bool.and_eq_true, Bool.or_eq_true, decide_eq_true_eq, bne_iff_ne, ne_eq] at *; first | done | omega | (intros; omega)) | (simp; done) | (simp; omega) | (simp +contextual; done) | (intro h; rw [h]; rfl) | (intros; simp_all; done)))
    | (with_reducible refine AW_skip ?_)
    | (with_reducible refine AW_exit ?_)
    | (with_reducible refine AW_ret ?_)
    | (with_reducible refine retK_n ?_)
    | (with_reducible refine retK_n' ?_)
    | (with_reducible refine retH_n rfl rfl rfl ?_)
    | (with_reducible refine retH_n' rfl rfl rfl ?_)
    | (with_reducible refine AW_condI ?_)
    | (with_reducible refine AW_block ?_)
    | ((with_reducible refine condN_t ?_ ?_) <;> (intro hc; (try simp only [Bool.and_eq_true, Bool.or_eq_true, Bool.not_eq_true', Bool.and_eq_false_iff, Bool.or_eq_false_iff, decide_eq_true_eq, decide_eq_false_iff_not, bne_iff_ne, beq_iff_eq, reduceCtorEq, bne_eq_false_iff_eq, beq_eq_false_iff_ne, Bool.not_eq_false', Int.not_le, Int.not_lt, Bool.not_not] at hc); (try (exfalso; first | contradiction | omega))))
    | (with_reducible refine AW_regionP 0 [0, 1, 2] ?_)
    | (with_reducible refine AW_regionP 1 [0, 1, 2] ?_)
    | (with_reducible refine AW_regionP 2 [0, 1, 2, 8] ?_)
    | (with_reducible refine AW_regionP 3 [1, 2, 8, 13, 14, 15] ?_)
    | (with_reducible refine AW_regionP 4 [1, 2, 8, 13, 14, 15] ?_)
    | ((with_reducible refine AW_prune (c := Code.region 5 _ true) [1, 2, 8, 9, 10, 13, 14, 15] ?_); (with_reducible refine AW_regionD ?_ ?_ ?_ ?_); (focus kernel_rfl); (focus kernel_rfl); (focus kernel_rfl))
    | (with_reducible refine AW_regionP 6 [1, 2, 8, 11, 12, 13, 14, 15] ?_)
    | (with_reducible refine AW_regionP 7 [12] ?_)
    | (with_reducible refine AW_regionP 8 [1, 2, 8, 11, 13, 14, 15] ?_)
    | (with_reducible refine AW_regionP 9 [1, 2, 8, 13, 14, 15] ?_)
    | (with_reducible refine AW_regionP 10 [8] ?_)
    | ((with_reducible refine And.intro ?_ ?_); focus ((with_reducible show chkR _ _ _ = true); kernel_rfl))
    | (refine callN_q (k := 84) fnok_84 (meet_p _ _ _ _) ?_ ?_)
    | (refine callDN_q (k := 84) fnok_84 (meet_p _ _ _ _) ?_ ?_)
    | (refine callDGN_q (k := 84) fnok_84 (fun hg => meet_p _ _ _ _) ?_ ?_)
    | (refine callGN_q (k := 84) fnok_84 (fun hg => meet_p _ _ _ _) ?_ ?_)
    | ((with_reducible refine AW_loopQ (c := (Code.seq (Code.region 3 _ _) _)) (ι := Nat) [1, 2, 13, 14] (fun k => [(8, .t (.one (.slc 0 0 k 2))), (15, iA .i64 (k : Int))]) (fun k => [(0, rowW (fW (ml lo hi lo' hi') (mh lo hi lo' hi') k))]) (fun k => k ≤ n ∧ (∀ i, i < k → mE (lo i) (hi i) (lo' i) (hi' i) = 0)) (fun k => n - k) 0 ?lg3 ?l13 ?l23 ?li3 ?lr3); (case' lg3 => rintro k _); (case' li3 => try (exact ⟨Nat.zero_le _, fun i hi => absurd hi (Nat.not_lt_zero _)⟩)); (case' lr3 => rintro k ⟨h1, h2⟩ KR hR3; skip; simp only [keepE, hupd, hset, lk, if_true, if_false, Nat.reduceEqDiff, reduceIte, List.cons_append, List.nil_append, spanF0, spanF1, rowW_push, rowW_purge, rowW_len, fW_len, List.length_append, List.length_singleton, maxLen, callDK_t]))
    | ((with_reducible refine hR3 _ (k + 1) ?_); (try clear hR3 KR))
    | ((with_reducible refine Told.mk ?_); simp only [go_sem, reduceIte, reduceCtorEq, Nat.reduceAdd, Nat.reduceLT, Nat.reduceLeDiff, Nat.reduceEqDiff, Nat.reduceMul, Nat.reduceSub, Nat.reduceBEq, spanF0, spanF1, rowW_push, rowW_purge, rowW_len, fW_len, List.length_append, List.length_singleton, maxLen, callDK_t] <;> (first | exact True.intro | (((try simp (disch := omega) only [seaWrap, Int.natCast_add, Int.cast_ofNat_Int, and_true, true_and, and_self, fW_s]); (repeat' (first | exact True.intro | omega | rfl | (with_reducible assumption) | (with_reducible refine And.intro ?_ ?_) | (exact wkC_eq rfl (rowW_iv _)) | (exact all_succ (by assumption) (by omega)) | (simp only [fW_s]))); done)) | (simp [fW, rowW, wkC]) | (refine Stuck.out ?_)))
    | ((fail_if_success (with_reducible show AW _ _ _ _)); simp (maxSteps := 2000000) only [go_sem, reduceIte, reduceCtorEq, Nat.reduceAdd, Nat.reduceLT, Nat.reduceLeDiff, Nat.reduceEqDiff, Nat.reduceMul, Nat.reduceSub, Nat.reduceBEq, Try.f83, le_22, sl_22, ar_22, ty_31, zc_31, spanF0, spanF1, rowW_push, rowW_purge, rowW_len, fW_len, List.length_append, List.length_singleton, maxLen, callDK_t])
    | ((fail_if_success (with_reducible show AW _ _ _ _)); simp (disch := omega) only [seaWrap, seaDiv, seaMod])
    | ((with_reducible refine hK _ ?_); clear hK K)
    | (with_reducible apply_assumption -exfalso))
  all_goals (first | (have e := mgoB_f (n := n) (by assumption) (by assumption); rw [e]; exact ⟨rfl, by rcases hE k (by omega) with h | h <;> simp_all⟩) | (obtain rfl : k = n := (by omega); have e := mgoB_t (n := k) (k := k) (by omega) h2; rw [e]; exact ⟨fun c hc => rowW_iv _ c hc, ⟨rfl, fun i o hi ho => fW_eqv _ _ _ _ _ hi ho⟩, rfl⟩))

set_option maxRecDepth 100000 in
set_option maxHeartbeats 4000000 in
theorem each_j (n n' : Nat) (lo hi lo' hi' : Nat → Int) (hn : n ≤ n') (h200 : n ≤ 200) (hE : ∀ i, i < n → jE (lo i) (hi i) (lo' i) (hi' i) = 0) : CallsP Try.prog 83 [.one (.lst 2 n (spanF lo hi)), .one (.lst 2 n' (spanF lo' hi')), .one (.g (.func (.func 54) #[] #[]))] (.tup [.one (.lst 2 (n) (spanF ((jl lo hi lo' hi')) ((jh lo hi lo' hi')))), .one (.g (.int .i64 (0)))]) := by
  refine CallsP_of Try.func83 rfl (by rw [Try.ntmps83]; simp) ?_
  simp only [Try.ntmps83, List.map_cons, List.map_nil, PT.tv, argEnv, Nat.zero_add, Nat.reduceAdd]
  repeat' (first
    | (with_reducible refine AW_seq_k fun K hK => ?_)
    | ((first | (with_reducible refine And.intro ?_ ?_) | (with_reducible refine Need.mk ?_)); focus (first | exact True.intro | (with_reducible assumption) | omega | (refine ⟨?_, ?_⟩ <;> omega) | (intro _; first | exact True.intro | (with_reducible assumption) | omega) | (intros; (repeat' (first | exact True.intro | omega | (with_reducible assumption) | (with_reducible refine And.intro ?_ ?_))); done) | (simp (disch := omega) only [Bool.and_eq_true, Bool.or_eq_true, decide_eq_true_eq, bne_iff_ne, ne_eq] at *; first | done | omega | (intros; omega)) | (simp; done) | (simp; omega) | (simp +contextual; done) | (intro h; rw [h]; rfl) | (intros; simp_all; done)))
    | (with_reducible refine AW_skip ?_)
    | (with_reducible refine AW_exit ?_)
    | (with_reducible refine AW_ret ?_)
    | (with_reducible refine retK_n ?_)
    | (with_reducible refine retK_n' ?_)
    | (with_reducible refine retH_n rfl rfl rfl ?_)
    | (with_reducible refine retH_n' rfl rfl rfl ?_)
    | (with_reducible refine AW_condI ?_)
    | (with_reducible refine AW_block ?_)
    | ((with_reducible refine condN_t ?_ ?_) <;> (intro hc; (try simp only [Bool.and_eq_true, Bool.or_eq_true, Bool.not_eq_true', Bool.and_eq_false_iff, Bool.or_eq_false_iff, decide_eq_true_eq, decide_eq_false_iff_not, bne_iff_ne, beq_iff_eq, reduceCtorEq, bne_eq_false_iff_eq, beq_eq_false_iff_ne, Bool.not_eq_false', Int.not_le, Int.not_lt, Bool.not_not] at hc); (try (exfalso; first | contradiction | omega))))
    | (with_reducible refine AW_regionP 0 [0, 1, 2] ?_)
    | (with_reducible refine AW_regionP 1 [0, 1, 2] ?_)
    | (with_reducible refine AW_regionP 2 [0, 1, 2, 8] ?_)
    | (with_reducible refine AW_regionP 3 [1, 2, 8, 13, 14, 15] ?_)
    | (with_reducible refine AW_regionP 4 [1, 2, 8, 13, 14, 15] ?_)
    | ((with_reducible refine AW_prune (c := Code.region 5 _ true) [1, 2, 8, 9, 10, 13, 14, 15] ?_); (with_reducible refine AW_regionD ?_ ?_ ?_ ?_); (focus kernel_rfl); (focus kernel_rfl); (focus kernel_rfl))
    | (with_reducible refine AW_regionP 6 [1, 2, 8, 11, 12, 13, 14, 15] ?_)
    | (with_reducible refine AW_regionP 7 [12] ?_)
    | (with_reducible refine AW_regionP 8 [1, 2, 8, 11, 13, 14, 15] ?_)
    | (with_reducible refine AW_regionP 9 [1, 2, 8, 13, 14, 15] ?_)
    | (with_reducible refine AW_regionP 10 [8] ?_)
    | ((with_reducible refine And.intro ?_ ?_); focus ((with_reducible show chkR _ _ _ = true); kernel_rfl))
    | (refine callN_q (k := 54) fnok_54 (join_p _ _ _ _) ?_ ?_)
    | (refine callDN_q (k := 54) fnok_54 (join_p _ _ _ _) ?_ ?_)
    | (refine callDGN_q (k := 54) fnok_54 (fun hg => join_p _ _ _ _) ?_ ?_)
    | (refine callGN_q (k := 54) fnok_54 (fun hg => join_p _ _ _ _) ?_ ?_)
    | ((with_reducible refine AW_loopQ (c := (Code.seq (Code.region 3 _ _) _)) (ι := Nat) [1, 2, 13, 14] (fun k => [(8, .t (.one (.slc 0 0 k 2))), (15, iA .i64 (k : Int))]) (fun k => [(0, rowW (fW (jl lo hi lo' hi') (jh lo hi lo' hi') k))]) (fun k => k ≤ n ∧ True) (fun k => n - k) 0 ?lg3 ?l13 ?l23 ?li3 ?lr3); (case' lg3 => rintro k _); (case' li3 => try (exact ⟨Nat.zero_le _, fun i hi => absurd hi (Nat.not_lt_zero _)⟩)); (case' lr3 => rintro k ⟨h1, h2⟩ KR hR3; skip; simp only [keepE, hupd, hset, lk, if_true, if_false, Nat.reduceEqDiff, reduceIte, List.cons_append, List.nil_append, spanF0, spanF1, rowW_push, rowW_purge, rowW_len, fW_len, List.length_append, List.length_singleton, maxLen, callDK_t]))
    | ((with_reducible refine hR3 _ (k + 1) ?_); (try clear hR3 KR))
    | ((with_reducible refine Told.mk ?_); simp only [go_sem, reduceIte, reduceCtorEq, Nat.reduceAdd, Nat.reduceLT, Nat.reduceLeDiff, Nat.reduceEqDiff, Nat.reduceMul, Nat.reduceSub, Nat.reduceBEq, spanF0, spanF1, rowW_push, rowW_purge, rowW_len, fW_len, List.length_append, List.length_singleton, maxLen, callDK_t] <;> (first | exact True.intro | (((try simp (disch := omega) only [seaWrap, Int.natCast_add, Int.cast_ofNat_Int, and_true, true_and, and_self, fW_s]); (repeat' (first | exact True.intro | omega | rfl | (with_reducible assumption) | (with_reducible refine And.intro ?_ ?_) | (exact wkC_eq rfl (rowW_iv _)) | (exact all_succ (by assumption) (by omega)) | (simp only [fW_s]))); done)) | (simp [fW, rowW, wkC]) | (refine Stuck.out ?_)))
    | ((fail_if_success (with_reducible show AW _ _ _ _)); simp (maxSteps := 2000000) only [go_sem, reduceIte, reduceCtorEq, Nat.reduceAdd, Nat.reduceLT, Nat.reduceLeDiff, Nat.reduceEqDiff, Nat.reduceMul, Nat.reduceSub, Nat.reduceBEq, Try.f83, le_22, sl_22, ar_22, ty_31, zc_31, spanF0, spanF1, rowW_push, rowW_purge, rowW_len, fW_len, List.length_append, List.length_singleton, maxLen, callDK_t])
    | ((fail_if_success (with_reducible show AW _ _ _ _)); simp (disch := omega) only [seaWrap, seaDiv, seaMod])
    | ((with_reducible refine hK _ ?_); clear hK K)
    | (with_reducible apply_assumption -exfalso))
  all_goals (first | (exfalso; have := hE k (by omega); contradiction) | (obtain rfl : k = n := (by omega); first | exact ⟨fun c hc => rowW_iv _ c hc, ⟨rfl, fun i o hi ho => fW_eqv _ _ _ _ _ hi ho⟩, rfl⟩ | exact ⟨fun c hc => rowW_iv _ c hc, rfl, fun i o hi ho => fW_eqv _ _ _ _ _ hi ho⟩))

set_option maxRecDepth 100000 in
set_option maxHeartbeats 4000000 in
theorem rmeet60 (n n' : Nat) (lo hi lo' hi' : Nat → Int) (hn : n ≤ n') (h200 : n ≤ 200) (hE : ∀ i, i < n → mE (lo i) (hi i) (lo' i) (hi' i) = 0 ∨ mE (lo i) (hi i) (lo' i) (hi' i) = 4) : CallsP Try.prog 60 [.one (.lst 2 n (spanF lo hi)), .one (.lst 2 n' (spanF lo' hi'))] (.tup [.one (.lst 2 (bif mgoB n lo hi lo' hi' then n else 0) (spanF ((ml lo hi lo' hi')) ((mh lo hi lo' hi')))), .one (.g (.int .i64 (bif mgoB n lo hi lo' hi' then 0 else 4)))]) := by
  refine CallsP_of Try.func60 rfl (by rw [Try.ntmps60]; simp) ?_
  simp only [Try.ntmps60, List.map_cons, List.map_nil, PT.tv, argEnv, Nat.zero_add, Nat.reduceAdd]
  repeat' (first
    | (with_reducible refine AW_seq_k fun K hK => ?_)
    | ((first | (with_reducible refine And.intro ?_ ?_) | (with_reducible refine Need.mk ?_)); focus (first | exact True.intro | (with_reducible assumption) | omega | (refine ⟨?_, ?_⟩ <;> omega) | (intro _; first | exact True.intro | (with_reducible assumption) | omega) | (intros; (repeat' (first | exact True.intro | omega | (with_reducible assumption) | (with_reducible refine And.intro ?_ ?_))); done) | (simp (disch := omega) only [Bool.and_eq_true, Bool.or_eq_true, decide_eq_true_eq, bne_iff_ne, ne_eq] at *; first | done | omega | (intros; omega)) | (simp; done) | (simp; omega) | (simp +contextual; done) | (intro h; rw [h]; rfl) | (intros; simp_all; done)))
    | (with_reducible refine AW_skip ?_)
    | (with_reducible refine AW_exit ?_)
    | (with_reducible refine AW_ret ?_)
    | (with_reducible refine retK_n ?_)
    | (with_reducible refine retK_n' ?_)
    | (with_reducible refine retH_n rfl rfl rfl ?_)
    | (with_reducible refine retH_n' rfl rfl rfl ?_)
    | (with_reducible refine AW_condI ?_)
    | (with_reducible refine AW_block ?_)
    | ((with_reducible refine condN_t ?_ ?_) <;> (intro hc; (try simp only [Bool.and_eq_true, Bool.or_eq_true, Bool.not_eq_true', Bool.and_eq_false_iff, Bool.or_eq_false_iff, decide_eq_true_eq, decide_eq_false_iff_not, bne_iff_ne, beq_iff_eq, reduceCtorEq, bne_eq_false_iff_eq, beq_eq_false_iff_ne, Bool.not_eq_false', Int.not_le, Int.not_lt, Bool.not_not] at hc); (try (exfalso; first | contradiction | omega))))
    | (with_reducible refine AW_regionP 0 [0, 1] ?_)
    | (with_reducible refine AW_regionP 1 [0, 1] ?_)
    | (refine callN_q (k := 83) fnok_83 (each_m _ _ _ _ _ _ hn h200 hE) ?_ ?_)
    | ((fail_if_success (with_reducible show AW _ _ _ _)); simp (maxSteps := 2000000) only [go_sem, reduceIte, reduceCtorEq, Nat.reduceAdd, Nat.reduceLT, Nat.reduceLeDiff, Nat.reduceEqDiff, Nat.reduceMul, Nat.reduceSub, Nat.reduceBEq, Try.f60, fnok_83])
    | ((with_reducible refine hK _ ?_); clear hK K))
  all_goals (first | exact ⟨fun i o _ _ => IV.eqv_refl _, rfl⟩ | exact ⟨⟨rfl, fun i o _ _ => IV.eqv_refl _⟩, rfl⟩ | exact fun i o _ _ => IV.eqv_refl _ | exact ⟨⟨rfl, rfl⟩, rfl⟩ | skip)

set_option maxRecDepth 100000 in
set_option maxHeartbeats 4000000 in
theorem rjoin63 (n n' : Nat) (lo hi lo' hi' : Nat → Int) (hn : n ≤ n') (h200 : n ≤ 200) (hE : ∀ i, i < n → jE (lo i) (hi i) (lo' i) (hi' i) = 0) : CallsP Try.prog 63 [.one (.lst 2 n (spanF lo hi)), .one (.lst 2 n' (spanF lo' hi'))] (.tup [.one (.lst 2 (n) (spanF ((jl lo hi lo' hi')) ((jh lo hi lo' hi')))), .one (.g (.int .i64 (0)))]) := by
  refine CallsP_of Try.func63 rfl (by rw [Try.ntmps63]; simp) ?_
  simp only [Try.ntmps63, List.map_cons, List.map_nil, PT.tv, argEnv, Nat.zero_add, Nat.reduceAdd]
  repeat' (first
    | (with_reducible refine AW_seq_k fun K hK => ?_)
    | ((first | (with_reducible refine And.intro ?_ ?_) | (with_reducible refine Need.mk ?_)); focus (first | exact True.intro | (with_reducible assumption) | omega | (refine ⟨?_, ?_⟩ <;> omega) | (intro _; first | exact True.intro | (with_reducible assumption) | omega) | (intros; (repeat' (first | exact True.intro | omega | (with_reducible assumption) | (with_reducible refine And.intro ?_ ?_))); done) | (simp (disch := omega) only [Bool.and_eq_true, Bool.or_eq_true, decide_eq_true_eq, bne_iff_ne, ne_eq] at *; first | done | omega | (intros; omega)) | (simp; done) | (simp; omega) | (simp +contextual; done) | (intro h; rw [h]; rfl) | (intros; simp_all; done)))
    | (with_reducible refine AW_skip ?_)
    | (with_reducible refine AW_exit ?_)
    | (with_reducible refine AW_ret ?_)
    | (with_reducible refine retK_n ?_)
    | (with_reducible refine retK_n' ?_)
    | (with_reducible refine retH_n rfl rfl rfl ?_)
    | (with_reducible refine retH_n' rfl rfl rfl ?_)
    | (with_reducible refine AW_condI ?_)
    | (with_reducible refine AW_block ?_)
    | ((with_reducible refine condN_t ?_ ?_) <;> (intro hc; (try simp only [Bool.and_eq_true, Bool.or_eq_true, Bool.not_eq_true', Bool.and_eq_false_iff, Bool.or_eq_false_iff, decide_eq_true_eq, decide_eq_false_iff_not, bne_iff_ne, beq_iff_eq, reduceCtorEq, bne_eq_false_iff_eq, beq_eq_false_iff_ne, Bool.not_eq_false', Int.not_le, Int.not_lt, Bool.not_not] at hc); (try (exfalso; first | contradiction | omega))))
    | (with_reducible refine AW_regionP 0 [0, 1] ?_)
    | (with_reducible refine AW_regionP 1 [0, 1] ?_)
    | (refine callN_q (k := 83) fnok_83 (each_j _ _ _ _ _ _ hn h200 hE) ?_ ?_)
    | ((fail_if_success (with_reducible show AW _ _ _ _)); simp (maxSteps := 2000000) only [go_sem, reduceIte, reduceCtorEq, Nat.reduceAdd, Nat.reduceLT, Nat.reduceLeDiff, Nat.reduceEqDiff, Nat.reduceMul, Nat.reduceSub, Nat.reduceBEq, Try.f63, fnok_83])
    | ((with_reducible refine hK _ ?_); clear hK K))
  all_goals (first | exact ⟨fun i o _ _ => IV.eqv_refl _, rfl⟩ | exact ⟨⟨rfl, fun i o _ _ => IV.eqv_refl _⟩, rfl⟩ | exact fun i o _ _ => IV.eqv_refl _ | exact ⟨⟨rfl, rfl⟩, rfl⟩ | skip)

def zi (e x : Int) : Int := if e = 0 then x else 0
def zn (e : Int) (n : Nat) : Nat := if e = 0 then n else 0
theorem zi_0 (x : Int) : zi 0 x = x := rfl
theorem zi_1 (x : Int) : zi 1 x = 0 := rfl
theorem zn_1 (n : Nat) : zn 1 n = 0 := rfl
theorem zi_3 (x : Int) : zi 3 x = 0 := rfl
theorem zn_3 (n : Nat) : zn 3 n = 0 := rfl
theorem zi_6 (x : Int) : zi 6 x = 0 := rfl
theorem zn_6 (n : Nat) : zn 6 n = 0 := rfl
theorem zi_18 (x : Int) : zi 18 x = 0 := rfl
theorem zn_18 (n : Nat) : zn 18 n = 0 := rfl
theorem zn_0 (n : Nat) : zn 0 n = n := rfl
def smB (s st s' st' : Int) (n n' : Nat) : Bool := decide (s = s' ∧ st = st' ∧ n = n')
def mtE (s st s' st' : Int) (n n' : Nat) (lo hi lo' hi' : Nat → Int) : Int := bE (tval s st n lo hi) (tval s' st' n' lo' hi') (smB s st s' st' n n') (mgoB n lo hi lo' hi')
def jtE (s st s' st' : Int) (n n' : Nat) (lo hi lo' hi' : Nat → Int) : Int := bE (tval s st n lo hi) (tval s' st' n' lo' hi') (smB s st s' st' n n') true
def gdB (n : Nat) (lo hi : Nat → Int) (b0 b1 : Int) : Bool := decide (∀ i, i < n → aE (lo i) (hi i) b0 b1 = 0 ∧ hv (aL (lo i) (hi i) b0 b1) (aH (lo i) (hi i) b0 b1) = true)
def shE (s st : Int) (n : Nat) (lo hi : Nat → Int) (b0 b1 : Int) : Int := bif tval s st n lo hi && sv b0 b1 then (bif gdB n lo hi b0 b1 then 0 else 3) else 1
theorem hE_m {s st s' st' : Int} {n n' : Nat} {lo hi lo' hi' : Nat → Int} (h1 : tval s st n lo hi = true) (h2 : tval s' st' n' lo' hi' = true) (hn : n = n') : ∀ i, i < n → mE (lo i) (hi i) (lo' i) (hi' i) = 0 ∨ mE (lo i) (hi i) (lo' i) (hi' i) = 4 := fun i hi_ => by
  have a := (tval_tv h1).hs i hi_
  have b := (tval_tv h2).hs i (hn ▸ hi_)
  have c1 : sv (lo i) (hi i) = true := sv_t (by omega)
  have c2 : sv (lo' i) (hi' i) = true := sv_t (by omega)
  unfold mE; rw [c1, c2]
  cases decide (min (hi i) (hi' i) < max (lo i) (lo' i)) <;> simp
theorem hE_j {s st s' st' : Int} {n n' : Nat} {lo hi lo' hi' : Nat → Int} (h1 : tval s st n lo hi = true) (h2 : tval s' st' n' lo' hi' = true) (hn : n = n') : ∀ i, i < n → jE (lo i) (hi i) (lo' i) (hi' i) = 0 := fun i hi_ => by
  have a := (tval_tv h1).hs i hi_
  have b := (tval_tv h2).hs i (hn ▸ hi_)
  exact (jj a b).1

set_option maxRecDepth 100000 in
set_option maxHeartbeats 4000000 in
theorem both_m1 (s st s' st' : Int) (n n' : Nat) (lo hi lo' hi' : Nat → Int) (hh : (tval s st n lo hi && tval s' st' n' lo' hi') = false) : CallsP Try.prog 59 [tideP s st n lo hi, tideP s' st' n' lo' hi', .one (.g (.func (.func 60) #[] #[]))] (.tup [tideP (zi (1) s) (zi (1) st) (zn (1) n) ((ml lo hi lo' hi')) ((mh lo hi lo' hi')), .one (.g (.int .i64 (1)))]) := by
  refine CallsP_of Try.func59 rfl (by rw [Try.ntmps59]; simp) ?_
  simp only [Try.ntmps59, List.map_cons, List.map_nil, PT.tv, argEnv, Nat.zero_add, Nat.reduceAdd]
  repeat' (first
    | (with_reducible refine AW_seq_k fun K hK => ?_)
    | ((first | (with_reducible refine And.intro ?_ ?_) | (with_reducible refine Need.mk ?_)); focus (first | exact True.intro | (with_reducible assumption) | omega | (refine ⟨?_, ?_⟩ <;> omega) | (intro _; first | exact True.intro | (with_reducible assumption) | omega) | (intros; (repeat' (first | exact True.intro | omega | (with_reducible assumption) | (with_reducible refine And.intro ?_ ?_))); done) | (simp (disch := omega) only [Bool.and_eq_true, Bool.or_eq_true, decide_eq_true_eq, bne_iff_ne, ne_eq] at *; first | done | omega | (intros; omega)) | (simp; done) | (simp; omega) | (simp +contextual; done) | (intro h; rw [h]; rfl) | (intros; simp_all; done)))
    | (with_reducible refine AW_skip ?_)
    | (with_reducible refine AW_exit ?_)
    | (with_reducible refine AW_ret ?_)
    | (with_reducible refine retK_n ?_)
    | (with_reducible refine retK_n' ?_)
    | (with_reducible refine retH_n rfl rfl rfl ?_)
    | (with_reducible refine retH_n' rfl rfl rfl ?_)
    | (with_reducible refine AW_condI ?_)
    | (with_reducible refine AW_block ?_)
    | ((with_reducible refine condN_t ?_ ?_) <;> (intro hc; (try simp only [Bool.and_eq_true, Bool.or_eq_true, Bool.not_eq_true', Bool.and_eq_false_iff, Bool.or_eq_false_iff, decide_eq_true_eq, decide_eq_false_iff_not, bne_iff_ne, beq_iff_eq, reduceCtorEq, bne_eq_false_iff_eq, beq_eq_false_iff_ne, Bool.not_eq_false', Int.not_le, Int.not_lt, Bool.not_not] at hc); (skip); (try (exfalso; first | contradiction | omega))))
    | (with_reducible refine AW_regionP 0 [0, 1, 2] ?_)
    | (with_reducible refine AW_regionP 1 [2, 3, 4, 6] ?_)
    | (with_reducible refine AW_regionP 2 [6] ?_)
    | (with_reducible refine AW_regionP 3 [2, 3, 4, 6] ?_)
    | (with_reducible refine AW_regionP 4 [6] ?_)
    | (with_reducible refine AW_regionP 5 [2, 3, 4, 6] ?_)
    | (with_reducible refine AW_regionP 6 [3, 6, 8, 9] ?_)
    | (with_reducible refine AW_regionP 7 [6] ?_)
    | (with_reducible refine AW_regionP 8 [3, 6, 8] ?_)
    | (refine callN_q (k := 18) fnok_18 (valid_p _ _ _ _ _) ?_ ?_)
    | (refine callGN_q (k := 18) fnok_18 (fun hg => valid_p _ _ _ _ _) ?_ ?_)
    | ((fail_if_success (with_reducible show AW _ _ _ _)); simp (maxSteps := 2000000) only [go_sem, reduceIte, reduceCtorEq, Nat.reduceAdd, Nat.reduceLT, Nat.reduceLeDiff, Nat.reduceEqDiff, Nat.reduceMul, Nat.reduceSub, Nat.reduceBEq, Try.f59, zc_24, ty_24, fnok_18, fo_24, of_24_0, ty_3, of_24_1, of_24_2, ty_22, le_22, pl_24_0, pl_24_1, pl_24_2, zi_0, zi_1, zi_3, zi_6, zi_18, zn_0, zn_1, zn_3, zn_6, zn_18])
    | ((with_reducible refine hK _ ?_); clear hK K))
  all_goals (first | omega | (simp_all; done) | (simp_all; omega) | exact ⟨⟨rfl, rfl, ⟨rfl, rfl⟩, trivial⟩, rfl⟩ | exact ⟨rfl, fun i o _ _ => IV.eqv_refl _⟩ | exact fun i o _ _ => IV.eqv_refl _ | skip)

set_option maxRecDepth 100000 in
set_option maxHeartbeats 4000000 in
theorem both_m6 (s st s' st' : Int) (n n' : Nat) (lo hi lo' hi' : Nat → Int) (hv : tval s st n lo hi = true) (hv2 : tval s' st' n' lo' hi' = true) (hs : ¬ (s = s' ∧ st = st' ∧ n = n')) : CallsP Try.prog 59 [tideP s st n lo hi, tideP s' st' n' lo' hi', .one (.g (.func (.func 60) #[] #[]))] (.tup [tideP (zi (6) s) (zi (6) st) (zn (6) n) ((ml lo hi lo' hi')) ((mh lo hi lo' hi')), .one (.g (.int .i64 (6)))]) := by
  refine CallsP_of Try.func59 rfl (by rw [Try.ntmps59]; simp) ?_
  simp only [Try.ntmps59, List.map_cons, List.map_nil, PT.tv, argEnv, Nat.zero_add, Nat.reduceAdd]
  repeat' (first
    | (with_reducible refine AW_seq_k fun K hK => ?_)
    | ((first | (with_reducible refine And.intro ?_ ?_) | (with_reducible refine Need.mk ?_)); focus (first | exact True.intro | (with_reducible assumption) | omega | (refine ⟨?_, ?_⟩ <;> omega) | (intro _; first | exact True.intro | (with_reducible assumption) | omega) | (intros; (repeat' (first | exact True.intro | omega | (with_reducible assumption) | (with_reducible refine And.intro ?_ ?_))); done) | (simp (disch := omega) only [Bool.and_eq_true, Bool.or_eq_true, decide_eq_true_eq, bne_iff_ne, ne_eq] at *; first | done | omega | (intros; omega)) | (simp; done) | (simp; omega) | (simp +contextual; done) | (intro h; rw [h]; rfl) | (intros; simp_all; done)))
    | (with_reducible refine AW_skip ?_)
    | (with_reducible refine AW_exit ?_)
    | (with_reducible refine AW_ret ?_)
    | (with_reducible refine retK_n ?_)
    | (with_reducible refine retK_n' ?_)
    | (with_reducible refine retH_n rfl rfl rfl ?_)
    | (with_reducible refine retH_n' rfl rfl rfl ?_)
    | (with_reducible refine AW_condI ?_)
    | (with_reducible refine AW_block ?_)
    | ((with_reducible refine condN_t ?_ ?_) <;> (intro hc; (try simp only [Bool.and_eq_true, Bool.or_eq_true, Bool.not_eq_true', Bool.and_eq_false_iff, Bool.or_eq_false_iff, decide_eq_true_eq, decide_eq_false_iff_not, bne_iff_ne, beq_iff_eq, reduceCtorEq, bne_eq_false_iff_eq, beq_eq_false_iff_ne, Bool.not_eq_false', Int.not_le, Int.not_lt, Bool.not_not] at hc); (skip); (try (exfalso; first | contradiction | omega))))
    | (with_reducible refine AW_regionP 0 [0, 1, 2] ?_)
    | (with_reducible refine AW_regionP 1 [2, 3, 4, 6] ?_)
    | (with_reducible refine AW_regionP 2 [6] ?_)
    | (with_reducible refine AW_regionP 3 [2, 3, 4, 6] ?_)
    | (with_reducible refine AW_regionP 4 [6] ?_)
    | (with_reducible refine AW_regionP 5 [2, 3, 4, 6] ?_)
    | (with_reducible refine AW_regionP 6 [3, 6, 8, 9] ?_)
    | (with_reducible refine AW_regionP 7 [6] ?_)
    | (with_reducible refine AW_regionP 8 [3, 6, 8] ?_)
    | (refine callN_q (k := 18) fnok_18 (valid_p _ _ _ _ _) ?_ ?_)
    | (refine callGN_q (k := 18) fnok_18 (fun hg => valid_p _ _ _ _ _) ?_ ?_)
    | ((fail_if_success (with_reducible show AW _ _ _ _)); simp (maxSteps := 2000000) only [go_sem, reduceIte, reduceCtorEq, Nat.reduceAdd, Nat.reduceLT, Nat.reduceLeDiff, Nat.reduceEqDiff, Nat.reduceMul, Nat.reduceSub, Nat.reduceBEq, Try.f59, zc_24, ty_24, fnok_18, fo_24, of_24_0, ty_3, of_24_1, of_24_2, ty_22, le_22, pl_24_0, pl_24_1, pl_24_2, zi_0, zi_1, zi_3, zi_6, zi_18, zn_0, zn_1, zn_3, zn_6, zn_18, hv, hv2])
    | ((with_reducible refine hK _ ?_); clear hK K))
  all_goals (first | omega | (simp_all; done) | (simp_all; omega) | exact ⟨⟨rfl, rfl, ⟨rfl, rfl⟩, trivial⟩, rfl⟩ | exact ⟨rfl, fun i o _ _ => IV.eqv_refl _⟩ | exact fun i o _ _ => IV.eqv_refl _ | skip)

set_option maxRecDepth 100000 in
set_option maxHeartbeats 4000000 in
theorem both_m18 (s st : Int) (n : Nat) (lo hi lo' hi' : Nat → Int) (hv : tval s st n lo hi = true) (hv2 : tval s st n lo' hi' = true) (h200 : n ≤ 200) (hm : mgoB n lo hi lo' hi' = false) : CallsP Try.prog 59 [tideP s st n lo hi, tideP s st n lo' hi', .one (.g (.func (.func 60) #[] #[]))] (.tup [tideP (zi (18) s) (zi (18) st) (zn (18) n) ((ml lo hi lo' hi')) ((mh lo hi lo' hi')), .one (.g (.int .i64 (18)))]) := by
  refine CallsP_of Try.func59 rfl (by rw [Try.ntmps59]; simp) ?_
  simp only [Try.ntmps59, List.map_cons, List.map_nil, PT.tv, argEnv, Nat.zero_add, Nat.reduceAdd]
  repeat' (first
    | (with_reducible refine AW_seq_k fun K hK => ?_)
    | ((first | (with_reducible refine And.intro ?_ ?_) | (with_reducible refine Need.mk ?_)); focus (first | exact True.intro | (with_reducible assumption) | omega | (refine ⟨?_, ?_⟩ <;> omega) | (intro _; first | exact True.intro | (with_reducible assumption) | omega) | (intros; (repeat' (first | exact True.intro | omega | (with_reducible assumption) | (with_reducible refine And.intro ?_ ?_))); done) | (simp (disch := omega) only [Bool.and_eq_true, Bool.or_eq_true, decide_eq_true_eq, bne_iff_ne, ne_eq] at *; first | done | omega | (intros; omega)) | (simp; done) | (simp; omega) | (simp +contextual; done) | (intro h; rw [h]; rfl) | (intros; simp_all; done)))
    | (with_reducible refine AW_skip ?_)
    | (with_reducible refine AW_exit ?_)
    | (with_reducible refine AW_ret ?_)
    | (with_reducible refine retK_n ?_)
    | (with_reducible refine retK_n' ?_)
    | (with_reducible refine retH_n rfl rfl rfl ?_)
    | (with_reducible refine retH_n' rfl rfl rfl ?_)
    | (with_reducible refine AW_condI ?_)
    | (with_reducible refine AW_block ?_)
    | ((with_reducible refine condN_t ?_ ?_) <;> (intro hc; (try simp only [Bool.and_eq_true, Bool.or_eq_true, Bool.not_eq_true', Bool.and_eq_false_iff, Bool.or_eq_false_iff, decide_eq_true_eq, decide_eq_false_iff_not, bne_iff_ne, beq_iff_eq, reduceCtorEq, bne_eq_false_iff_eq, beq_eq_false_iff_ne, Bool.not_eq_false', Int.not_le, Int.not_lt, Bool.not_not] at hc); (skip); (try (exfalso; first | contradiction | omega))))
    | (with_reducible refine AW_regionP 0 [0, 1, 2] ?_)
    | (with_reducible refine AW_regionP 1 [2, 3, 4, 6] ?_)
    | (with_reducible refine AW_regionP 2 [6] ?_)
    | (with_reducible refine AW_regionP 3 [2, 3, 4, 6] ?_)
    | (with_reducible refine AW_regionP 4 [6] ?_)
    | (with_reducible refine AW_regionP 5 [2, 3, 4, 6] ?_)
    | (with_reducible refine AW_regionP 6 [3, 6, 8, 9] ?_)
    | (with_reducible refine AW_regionP 7 [6] ?_)
    | (with_reducible refine AW_regionP 8 [3, 6, 8] ?_)
    | (refine callN_q (k := 18) fnok_18 (valid_p _ _ _ _ _) ?_ ?_)
    | (refine callGN_q (k := 18) fnok_18 (fun hg => valid_p _ _ _ _ _) ?_ ?_)
    | (refine callN_q (k := 60) fnok_60 (rmeet60 _ _ _ _ _ _ (Nat.le_refl _) h200 (hE_m hv hv2 rfl)) ?_ ?_)
    | (refine callDN_q (k := 60) fnok_60 (rmeet60 _ _ _ _ _ _ (Nat.le_refl _) h200 (hE_m hv hv2 rfl)) ?_ ?_)
    | (refine callDGN_q (k := 60) fnok_60 (fun hg => rmeet60 _ _ _ _ _ _ (Nat.le_refl _) h200 (hE_m hv hv2 rfl)) ?_ ?_)
    | (refine callGN_q (k := 60) fnok_60 (fun hg => rmeet60 _ _ _ _ _ _ (Nat.le_refl _) h200 (hE_m hv hv2 rfl)) ?_ ?_)
    | ((fail_if_success (with_reducible show AW _ _ _ _)); simp (maxSteps := 2000000) only [go_sem, reduceIte, reduceCtorEq, Nat.reduceAdd, Nat.reduceLT, Nat.reduceLeDiff, Nat.reduceEqDiff, Nat.reduceMul, Nat.reduceSub, Nat.reduceBEq, Try.f59, zc_24, ty_24, fnok_18, fo_24, of_24_0, ty_3, of_24_1, of_24_2, ty_22, le_22, pl_24_0, pl_24_1, pl_24_2, zi_0, zi_1, zi_3, zi_6, zi_18, zn_0, zn_1, zn_3, zn_6, zn_18, hv, hv2, hm])
    | ((with_reducible refine hK _ ?_); clear hK K))
  all_goals (first | omega | (simp_all; done) | (simp_all; omega) | exact ⟨⟨rfl, rfl, ⟨rfl, rfl⟩, trivial⟩, rfl⟩ | exact ⟨rfl, fun i o _ _ => IV.eqv_refl _⟩ | exact fun i o _ _ => IV.eqv_refl _ | skip)

set_option maxRecDepth 100000 in
set_option maxHeartbeats 4000000 in
theorem both_m0 (s st : Int) (n : Nat) (lo hi lo' hi' : Nat → Int) (hv : tval s st n lo hi = true) (hv2 : tval s st n lo' hi' = true) (h200 : n ≤ 200) (hm : mgoB n lo hi lo' hi' = true) : CallsP Try.prog 59 [tideP s st n lo hi, tideP s st n lo' hi', .one (.g (.func (.func 60) #[] #[]))] (.tup [tideP (zi (0) s) (zi (0) st) (zn (0) n) ((ml lo hi lo' hi')) ((mh lo hi lo' hi')), .one (.g (.int .i64 (0)))]) := by
  refine CallsP_of Try.func59 rfl (by rw [Try.ntmps59]; simp) ?_
  simp only [Try.ntmps59, List.map_cons, List.map_nil, PT.tv, argEnv, Nat.zero_add, Nat.reduceAdd]
  repeat' (first
    | (with_reducible refine AW_seq_k fun K hK => ?_)
    | ((first | (with_reducible refine And.intro ?_ ?_) | (with_reducible refine Need.mk ?_)); focus (first | exact True.intro | (with_reducible assumption) | omega | (refine ⟨?_, ?_⟩ <;> omega) | (intro _; first | exact True.intro | (with_reducible assumption) | omega) | (intros; (repeat' (first | exact True.intro | omega | (with_reducible assumption) | (with_reducible refine And.intro ?_ ?_))); done) | (simp (disch := omega) only [Bool.and_eq_true, Bool.or_eq_true, decide_eq_true_eq, bne_iff_ne, ne_eq] at *; first | done | omega | (intros; omega)) | (simp; done) | (simp; omega) | (simp +contextual; done) | (intro h; rw [h]; rfl) | (intros; simp_all; done)))
    | (with_reducible refine AW_skip ?_)
    | (with_reducible refine AW_exit ?_)
    | (with_reducible refine AW_ret ?_)
    | (with_reducible refine retK_n ?_)
    | (with_reducible refine retK_n' ?_)
    | (with_reducible refine retH_n rfl rfl rfl ?_)
    | (with_reducible refine retH_n' rfl rfl rfl ?_)
    | (with_reducible refine AW_condI ?_)
    | (with_reducible refine AW_block ?_)
    | ((with_reducible refine condN_t ?_ ?_) <;> (intro hc; (try simp only [Bool.and_eq_true, Bool.or_eq_true, Bool.not_eq_true', Bool.and_eq_false_iff, Bool.or_eq_false_iff, decide_eq_true_eq, decide_eq_false_iff_not, bne_iff_ne, beq_iff_eq, reduceCtorEq, bne_eq_false_iff_eq, beq_eq_false_iff_ne, Bool.not_eq_false', Int.not_le, Int.not_lt, Bool.not_not] at hc); (skip); (try (exfalso; first | contradiction | omega))))
    | (with_reducible refine AW_regionP 0 [0, 1, 2] ?_)
    | (with_reducible refine AW_regionP 1 [2, 3, 4, 6] ?_)
    | (with_reducible refine AW_regionP 2 [6] ?_)
    | (with_reducible refine AW_regionP 3 [2, 3, 4, 6] ?_)
    | (with_reducible refine AW_regionP 4 [6] ?_)
    | (with_reducible refine AW_regionP 5 [2, 3, 4, 6] ?_)
    | (with_reducible refine AW_regionP 6 [3, 6, 8, 9] ?_)
    | (with_reducible refine AW_regionP 7 [6] ?_)
    | (with_reducible refine AW_regionP 8 [3, 6, 8] ?_)
    | (refine callN_q (k := 18) fnok_18 (valid_p _ _ _ _ _) ?_ ?_)
    | (refine callGN_q (k := 18) fnok_18 (fun hg => valid_p _ _ _ _ _) ?_ ?_)
    | (refine callN_q (k := 60) fnok_60 (rmeet60 _ _ _ _ _ _ (Nat.le_refl _) h200 (hE_m hv hv2 rfl)) ?_ ?_)
    | (refine callDN_q (k := 60) fnok_60 (rmeet60 _ _ _ _ _ _ (Nat.le_refl _) h200 (hE_m hv hv2 rfl)) ?_ ?_)
    | (refine callDGN_q (k := 60) fnok_60 (fun hg => rmeet60 _ _ _ _ _ _ (Nat.le_refl _) h200 (hE_m hv hv2 rfl)) ?_ ?_)
    | (refine callGN_q (k := 60) fnok_60 (fun hg => rmeet60 _ _ _ _ _ _ (Nat.le_refl _) h200 (hE_m hv hv2 rfl)) ?_ ?_)
    | ((fail_if_success (with_reducible show AW _ _ _ _)); simp (maxSteps := 2000000) only [go_sem, reduceIte, reduceCtorEq, Nat.reduceAdd, Nat.reduceLT, Nat.reduceLeDiff, Nat.reduceEqDiff, Nat.reduceMul, Nat.reduceSub, Nat.reduceBEq, Try.f59, zc_24, ty_24, fnok_18, fo_24, of_24_0, ty_3, of_24_1, of_24_2, ty_22, le_22, pl_24_0, pl_24_1, pl_24_2, zi_0, zi_1, zi_3, zi_6, zi_18, zn_0, zn_1, zn_3, zn_6, zn_18, hv, hv2, hm])
    | ((with_reducible refine hK _ ?_); clear hK K))
  all_goals (first | omega | (simp_all; done) | (simp_all; omega) | exact ⟨⟨rfl, rfl, ⟨rfl, rfl⟩, trivial⟩, rfl⟩ | exact ⟨rfl, fun i o _ _ => IV.eqv_refl _⟩ | exact fun i o _ _ => IV.eqv_refl _ | skip)

theorem both_m_p (s st s' st' : Int) (n n' : Nat) (lo hi lo' hi' : Nat → Int) : CallsP Try.prog 59 [tideP s st n lo hi, tideP s' st' n' lo' hi', .one (.g (.func (.func 60) #[] #[]))] (.tup [tideP (zi (mtE s st s' st' n n' lo hi lo' hi') s) (zi (mtE s st s' st' n n' lo hi lo' hi') st) (zn (mtE s st s' st' n n' lo hi lo' hi') n) ((ml lo hi lo' hi')) ((mh lo hi lo' hi')), .one (.g (.int .i64 (mtE s st s' st' n n' lo hi lo' hi')))]) := by
  cases hh : (tval s st n lo hi && tval s' st' n' lo' hi') with
  | false =>
    have e : mtE s st s' st' n n' lo hi lo' hi' = 1 := by unfold mtE bE; rw [hh]; rfl
    rw [e]; exact both_m1 s st s' st' n n' lo hi lo' hi' hh
  | true =>
    simp only [Bool.and_eq_true] at hh
    obtain ⟨hv, hv2⟩ := hh
    by_cases hs : s = s' ∧ st = st' ∧ n = n'
    · obtain ⟨rfl, rfl, rfl⟩ := hs
      cases hm : mgoB n lo hi lo' hi' with
      | false =>
        have e : mtE s st s st n n lo hi lo' hi' = 18 := by unfold mtE bE smB; rw [hv, hv2, hm]; simp
        rw [e]; exact both_m18 s st n lo hi lo' hi' hv hv2 (tval_tv hv).n1 hm
      | true =>
        have e : mtE s st s st n n lo hi lo' hi' = 0 := by unfold mtE bE smB; rw [hv, hv2, hm]; simp
        rw [e]; exact both_m0 s st n lo hi lo' hi' hv hv2 (tval_tv hv).n1 hm
    · have e : mtE s st s' st' n n' lo hi lo' hi' = 6 := by unfold mtE bE smB; rw [hv, hv2, decide_eq_false hs]; rfl
      rw [e]; exact both_m6 s st s' st' n n' lo hi lo' hi' hv hv2 hs

set_option maxRecDepth 100000 in
set_option maxHeartbeats 4000000 in
theorem tm_p (s st s' st' : Int) (n n' : Nat) (lo hi lo' hi' : Nat → Int) : CallsP Try.prog 24 [tideP s st n lo hi, tideP s' st' n' lo' hi'] (.tup [tideP (zi (mtE s st s' st' n n' lo hi lo' hi') s) (zi (mtE s st s' st' n n' lo hi lo' hi') st) (zn (mtE s st s' st' n n' lo hi lo' hi') n) ((ml lo hi lo' hi')) ((mh lo hi lo' hi')), .one (.g (.int .i64 (mtE s st s' st' n n' lo hi lo' hi')))]) := by
  refine CallsP_of Try.func24 rfl (by rw [Try.ntmps24]; simp) ?_
  simp only [Try.ntmps24, List.map_cons, List.map_nil, PT.tv, argEnv, Nat.zero_add, Nat.reduceAdd]
  repeat' (first
    | (with_reducible refine AW_seq_k fun K hK => ?_)
    | ((first | (with_reducible refine And.intro ?_ ?_) | (with_reducible refine Need.mk ?_)); focus (first | exact True.intro | (with_reducible assumption) | omega | (refine ⟨?_, ?_⟩ <;> omega) | (intro _; first | exact True.intro | (with_reducible assumption) | omega) | (intros; (repeat' (first | exact True.intro | omega | (with_reducible assumption) | (with_reducible refine And.intro ?_ ?_))); done) | (simp (disch := omega) only [Bool.and_eq_true, Bool.or_eq_true, decide_eq_true_eq, bne_iff_ne, ne_eq] at *; first | done | omega | (intros; omega)) | (simp; done) | (simp; omega) | (simp +contextual; done) | (intro h; rw [h]; rfl) | (intros; simp_all; done)))
    | (with_reducible refine AW_skip ?_)
    | (with_reducible refine AW_exit ?_)
    | (with_reducible refine AW_ret ?_)
    | (with_reducible refine retK_n ?_)
    | (with_reducible refine retK_n' ?_)
    | (with_reducible refine retH_n rfl rfl rfl ?_)
    | (with_reducible refine retH_n' rfl rfl rfl ?_)
    | (with_reducible refine AW_condI ?_)
    | (with_reducible refine AW_block ?_)
    | ((with_reducible refine condN_t ?_ ?_) <;> (intro hc; (try simp only [Bool.and_eq_true, Bool.or_eq_true, Bool.not_eq_true', Bool.and_eq_false_iff, Bool.or_eq_false_iff, decide_eq_true_eq, decide_eq_false_iff_not, bne_iff_ne, beq_iff_eq, reduceCtorEq, bne_eq_false_iff_eq, beq_eq_false_iff_ne, Bool.not_eq_false', Int.not_le, Int.not_lt, Bool.not_not] at hc); (try (exfalso; first | contradiction | omega))))
    | (with_reducible refine AW_regionP 0 [0, 1] ?_)
    | (with_reducible refine AW_regionP 1 [2, 3, 4] ?_)
    | (refine callN_q (k := 59) fnok_59 (both_m_p _ _ _ _ _ _ _ _ _ _) ?_ ?_)
    | ((fail_if_success (with_reducible show AW _ _ _ _)); simp (maxSteps := 2000000) only [go_sem, reduceIte, reduceCtorEq, Nat.reduceAdd, Nat.reduceLT, Nat.reduceLeDiff, Nat.reduceEqDiff, Nat.reduceMul, Nat.reduceSub, Nat.reduceBEq, Try.f24, zc_24, ty_24, fnok_59])
    | ((with_reducible refine hK _ ?_); clear hK K))
  all_goals (first | omega | (simp_all; done) | (simp_all; omega) | exact ⟨⟨rfl, rfl, ⟨rfl, rfl⟩, trivial⟩, rfl⟩ | exact ⟨rfl, fun i o _ _ => IV.eqv_refl _⟩ | exact fun i o _ _ => IV.eqv_refl _ | skip)

set_option maxRecDepth 100000 in
set_option maxHeartbeats 4000000 in
theorem ralike_p (s st s' st' : Int) (n n' : Nat) (lo hi lo' hi' : Nat → Int) : CallsP Try.prog 61 [tideP s st n lo hi, tideP s' st' n' lo' hi'] (.t (.one (.g (.bool (smB s st s' st' n n'))))) := by
  refine CallsP_of Try.func61 rfl (by rw [Try.ntmps61]; simp) ?_
  simp only [Try.ntmps61, List.map_cons, List.map_nil, PT.tv, argEnv, Nat.zero_add, Nat.reduceAdd]
  repeat' (first
    | (with_reducible refine AW_seq_k fun K hK => ?_)
    | ((first | (with_reducible refine And.intro ?_ ?_) | (with_reducible refine Need.mk ?_)); focus (first | exact True.intro | (with_reducible assumption) | omega | (refine ⟨?_, ?_⟩ <;> omega) | (intro _; first | exact True.intro | (with_reducible assumption) | omega) | (intros; (repeat' (first | exact True.intro | omega | (with_reducible assumption) | (with_reducible refine And.intro ?_ ?_))); done) | (simp (disch := omega) only [Bool.and_eq_true, Bool.or_eq_true, decide_eq_true_eq, bne_iff_ne, ne_eq] at *; first | done | omega | (intros; omega)) | (simp; done) | (simp; omega) | (simp +contextual; done) | (intro h; rw [h]; rfl) | (intros; simp_all; done)))
    | (with_reducible refine AW_skip ?_)
    | (with_reducible refine AW_exit ?_)
    | (with_reducible refine AW_ret ?_)
    | (with_reducible refine retK_n ?_)
    | (with_reducible refine retK_n' ?_)
    | (with_reducible refine retH_n rfl rfl rfl ?_)
    | (with_reducible refine retH_n' rfl rfl rfl ?_)
    | (with_reducible refine AW_condI ?_)
    | (with_reducible refine AW_block ?_)
    | ((with_reducible refine condN_t ?_ ?_) <;> (intro hc; (try simp only [Bool.and_eq_true, Bool.or_eq_true, Bool.not_eq_true', Bool.and_eq_false_iff, Bool.or_eq_false_iff, decide_eq_true_eq, decide_eq_false_iff_not, bne_iff_ne, beq_iff_eq, reduceCtorEq, bne_eq_false_iff_eq, beq_eq_false_iff_ne, Bool.not_eq_false', Int.not_le, Int.not_lt, Bool.not_not] at hc); (try (exfalso; first | contradiction | omega))))
    | (with_reducible refine AW_regionP 0 [0, 1] ?_)
    | (with_reducible refine AW_regionP 1 [2, 3] ?_)
    | ((fail_if_success (with_reducible show AW _ _ _ _)); simp (maxSteps := 2000000) only [go_sem, reduceIte, reduceCtorEq, Nat.reduceAdd, Nat.reduceLT, Nat.reduceLeDiff, Nat.reduceEqDiff, Nat.reduceMul, Nat.reduceSub, Nat.reduceBEq, Try.f61, of_24_0, ty_3, of_24_1, of_24_2, ty_22, le_22, smB])
    | ((with_reducible refine hK _ ?_); clear hK K))
  all_goals (first | (refine Bool.eq_iff_iff.2 ?_; simp only [Bool.and_eq_true, beq_iff_eq, decide_eq_true_eq]; first | done | omega) | skip)

set_option maxRecDepth 100000 in
set_option maxHeartbeats 4000000 in
theorem rm1 (s st s' st' : Int) (n n' : Nat) (lo hi lo' hi' : Nat → Int) (hh : (tval s st n lo hi && tval s' st' n' lo' hi') = false) : CallsP Try.prog 25 [tideP s st n lo hi, tideP s' st' n' lo' hi'] (.tup [tideP (zi (1) s) (zi (1) st) (zn (1) n) ((ml lo hi lo' hi')) ((mh lo hi lo' hi')), .one (.g (.int .i64 (1)))]) := by
  refine CallsP_of Try.func25 rfl (by rw [Try.ntmps25]; simp) ?_
  simp only [Try.ntmps25, List.map_cons, List.map_nil, PT.tv, argEnv, Nat.zero_add, Nat.reduceAdd]
  repeat' (first
    | (with_reducible refine AW_seq_k fun K hK => ?_)
    | ((first | (with_reducible refine And.intro ?_ ?_) | (with_reducible refine Need.mk ?_)); focus (first | exact True.intro | (with_reducible assumption) | omega | (refine ⟨?_, ?_⟩ <;> omega) | (intro _; first | exact True.intro | (with_reducible assumption) | omega) | (intros; (repeat' (first | exact True.intro | omega | (with_reducible assumption) | (with_reducible refine And.intro ?_ ?_))); done) | (simp (disch := omega) only [Bool.and_eq_true, Bool.or_eq_true, decide_eq_true_eq, bne_iff_ne, ne_eq] at *; first | done | omega | (intros; omega)) | (simp; done) | (simp; omega) | (simp +contextual; done) | (intro h; rw [h]; rfl) | (intros; simp_all; done)))
    | (with_reducible refine AW_skip ?_)
    | (with_reducible refine AW_exit ?_)
    | (with_reducible refine AW_ret ?_)
    | (with_reducible refine retK_n ?_)
    | (with_reducible refine retK_n' ?_)
    | (with_reducible refine retH_n rfl rfl rfl ?_)
    | (with_reducible refine retH_n' rfl rfl rfl ?_)
    | (with_reducible refine AW_condI ?_)
    | (with_reducible refine AW_block ?_)
    | ((with_reducible refine condN_t ?_ ?_) <;> (intro hc; (try simp only [Bool.and_eq_true, Bool.or_eq_true, Bool.not_eq_true', Bool.and_eq_false_iff, Bool.or_eq_false_iff, decide_eq_true_eq, decide_eq_false_iff_not, bne_iff_ne, beq_iff_eq, reduceCtorEq, bne_eq_false_iff_eq, beq_eq_false_iff_ne, Bool.not_eq_false', Int.not_le, Int.not_lt, Bool.not_not] at hc); (skip); (try (exfalso; first | contradiction | omega))))
    | (with_reducible refine AW_regionP 0 [0, 1] ?_)
    | (with_reducible refine AW_regionP 1 [2, 3, 4] ?_)
    | (with_reducible refine AW_regionP 2 [2, 3, 4, 6] ?_)
    | (with_reducible refine AW_regionP 3 [2, 3, 4, 6, 7] ?_)
    | (with_reducible refine AW_regionP 4 [4] ?_)
    | (with_reducible refine AW_regionP 5 [2, 3, 4] ?_)
    | (with_reducible refine AW_regionP 6 [4] ?_)
    | (with_reducible refine AW_regionP 7 [2, 3, 4] ?_)
    | (with_reducible refine AW_regionP 8 [2, 3, 4, 8] ?_)
    | (with_reducible refine AW_regionP 9 [2, 3, 4, 8, 9] ?_)
    | (with_reducible refine AW_regionP 10 [2, 3, 4, 8, 9] ?_)
    | ((with_reducible refine AW_prune (c := Code.region 11 _ true) [2, 3, 4, 8, 9] ?_); (with_reducible refine AW_regionD ?_ ?_ ?_ ?_); (focus kernel_rfl); (focus kernel_rfl); (focus kernel_rfl))
    | (with_reducible refine AW_regionP 12 [2, 3, 4, 8, 9, 10, 11] ?_)
    | (with_reducible refine AW_regionP 13 [4] ?_)
    | (with_reducible refine AW_regionP 14 [2, 3, 4, 8, 9, 10] ?_)
    | (with_reducible refine AW_regionP 15 [4, 8] ?_)
    | ((with_reducible refine And.intro ?_ ?_); focus ((with_reducible show chkR _ _ _ = true); kernel_rfl))
    | (refine callN_q (k := 17) fnok_17 (rvalid_p _ _ _ _ _) ?_ ?_)
    | (refine callN_q (k := 61) fnok_61 (ralike_p _ _ _ _ _ _ _ _ _ _) ?_ ?_)
    | ((fail_if_success (with_reducible show AW _ _ _ _)); simp (maxSteps := 2000000) only [go_sem, reduceIte, reduceCtorEq, Nat.reduceAdd, Nat.reduceLT, Nat.reduceLeDiff, Nat.reduceEqDiff, Nat.reduceMul, Nat.reduceSub, Nat.reduceBEq, Try.f25, zc_24, ty_24, fnok_17, fo_24, fnok_61, of_24_0, ty_3, of_24_1, pl_24_0, pl_24_1, of_24_2, ty_22, le_22, sl_22, ar_22, ty_31, fnok_62, zc_31, zi_0, zi_1, zi_3, zi_6, zi_18, zn_0, zn_1, zn_3, zn_6, zn_18])
    | ((fail_if_success (with_reducible show AW _ _ _ _)); simp (disch := omega) only [seaWrap, seaDiv, seaMod])
    | ((with_reducible refine hK _ ?_); clear hK K))
  all_goals (first | omega | (simp_all; done) | (simp_all; omega) | exact ⟨⟨rfl, rfl, ⟨rfl, rfl⟩, trivial⟩, rfl⟩ | exact ⟨rfl, fun i o _ _ => IV.eqv_refl _⟩ | exact fun i o _ _ => IV.eqv_refl _ | skip)

set_option maxRecDepth 100000 in
set_option maxHeartbeats 4000000 in
theorem rm6 (s st s' st' : Int) (n n' : Nat) (lo hi lo' hi' : Nat → Int) (hv : tval s st n lo hi = true) (hv2 : tval s' st' n' lo' hi' = true) (hs : smB s st s' st' n n' = false) : CallsP Try.prog 25 [tideP s st n lo hi, tideP s' st' n' lo' hi'] (.tup [tideP (zi (6) s) (zi (6) st) (zn (6) n) ((ml lo hi lo' hi')) ((mh lo hi lo' hi')), .one (.g (.int .i64 (6)))]) := by
  refine CallsP_of Try.func25 rfl (by rw [Try.ntmps25]; simp) ?_
  simp only [Try.ntmps25, List.map_cons, List.map_nil, PT.tv, argEnv, Nat.zero_add, Nat.reduceAdd]
  repeat' (first
    | (with_reducible refine AW_seq_k fun K hK => ?_)
    | ((first | (with_reducible refine And.intro ?_ ?_) | (with_reducible refine Need.mk ?_)); focus (first | exact True.intro | (with_reducible assumption) | omega | (refine ⟨?_, ?_⟩ <;> omega) | (intro _; first | exact True.intro | (with_reducible assumption) | omega) | (intros; (repeat' (first | exact True.intro | omega | (with_reducible assumption) | (with_reducible refine And.intro ?_ ?_))); done) | (simp (disch := omega) only [Bool.and_eq_true, Bool.or_eq_true, decide_eq_true_eq, bne_iff_ne, ne_eq] at *; first | done | omega | (intros; omega)) | (simp; done) | (simp; omega) | (simp +contextual; done) | (intro h; rw [h]; rfl) | (intros; simp_all; done)))
    | (with_reducible refine AW_skip ?_)
    | (with_reducible refine AW_exit ?_)
    | (with_reducible refine AW_ret ?_)
    | (with_reducible refine retK_n ?_)
    | (with_reducible refine retK_n' ?_)
    | (with_reducible refine retH_n rfl rfl rfl ?_)
    | (with_reducible refine retH_n' rfl rfl rfl ?_)
    | (with_reducible refine AW_condI ?_)
    | (with_reducible refine AW_block ?_)
    | ((with_reducible refine condN_t ?_ ?_) <;> (intro hc; (try simp only [Bool.and_eq_true, Bool.or_eq_true, Bool.not_eq_true', Bool.and_eq_false_iff, Bool.or_eq_false_iff, decide_eq_true_eq, decide_eq_false_iff_not, bne_iff_ne, beq_iff_eq, reduceCtorEq, bne_eq_false_iff_eq, beq_eq_false_iff_ne, Bool.not_eq_false', Int.not_le, Int.not_lt, Bool.not_not] at hc); (skip); (try (exfalso; first | contradiction | omega))))
    | (with_reducible refine AW_regionP 0 [0, 1] ?_)
    | (with_reducible refine AW_regionP 1 [2, 3, 4] ?_)
    | (with_reducible refine AW_regionP 2 [2, 3, 4, 6] ?_)
    | (with_reducible refine AW_regionP 3 [2, 3, 4, 6, 7] ?_)
    | (with_reducible refine AW_regionP 4 [4] ?_)
    | (with_reducible refine AW_regionP 5 [2, 3, 4] ?_)
    | (with_reducible refine AW_regionP 6 [4] ?_)
    | (with_reducible refine AW_regionP 7 [2, 3, 4] ?_)
    | (with_reducible refine AW_regionP 8 [2, 3, 4, 8] ?_)
    | (with_reducible refine AW_regionP 9 [2, 3, 4, 8, 9] ?_)
    | (with_reducible refine AW_regionP 10 [2, 3, 4, 8, 9] ?_)
    | ((with_reducible refine AW_prune (c := Code.region 11 _ true) [2, 3, 4, 8, 9] ?_); (with_reducible refine AW_regionD ?_ ?_ ?_ ?_); (focus kernel_rfl); (focus kernel_rfl); (focus kernel_rfl))
    | (with_reducible refine AW_regionP 12 [2, 3, 4, 8, 9, 10, 11] ?_)
    | (with_reducible refine AW_regionP 13 [4] ?_)
    | (with_reducible refine AW_regionP 14 [2, 3, 4, 8, 9, 10] ?_)
    | (with_reducible refine AW_regionP 15 [4, 8] ?_)
    | ((with_reducible refine And.intro ?_ ?_); focus ((with_reducible show chkR _ _ _ = true); kernel_rfl))
    | (refine callN_q (k := 17) fnok_17 (rvalid_p _ _ _ _ _) ?_ ?_)
    | (refine callN_q (k := 61) fnok_61 (ralike_p _ _ _ _ _ _ _ _ _ _) ?_ ?_)
    | ((fail_if_success (with_reducible show AW _ _ _ _)); simp (maxSteps := 2000000) only [go_sem, reduceIte, reduceCtorEq, Nat.reduceAdd, Nat.reduceLT, Nat.reduceLeDiff, Nat.reduceEqDiff, Nat.reduceMul, Nat.reduceSub, Nat.reduceBEq, Try.f25, zc_24, ty_24, fnok_17, fo_24, fnok_61, of_24_0, ty_3, of_24_1, pl_24_0, pl_24_1, of_24_2, ty_22, le_22, sl_22, ar_22, ty_31, fnok_62, zc_31, zi_0, zi_1, zi_3, zi_6, zi_18, zn_0, zn_1, zn_3, zn_6, zn_18, hv, hv2, hs])
    | ((fail_if_success (with_reducible show AW _ _ _ _)); simp (disch := omega) only [seaWrap, seaDiv, seaMod])
    | ((with_reducible refine hK _ ?_); clear hK K))
  all_goals (first | omega | (simp_all; done) | (simp_all; omega) | exact ⟨⟨rfl, rfl, ⟨rfl, rfl⟩, trivial⟩, rfl⟩ | exact ⟨rfl, fun i o _ _ => IV.eqv_refl _⟩ | exact fun i o _ _ => IV.eqv_refl _ | skip)

set_option maxRecDepth 100000 in
set_option maxHeartbeats 4000000 in
theorem rmx (s st : Int) (n : Nat) (lo hi lo' hi' : Nat → Int) (hv : tval s st n lo hi = true) (hv2 : tval s st n lo' hi' = true) (h200 : n ≤ 200) (hs : smB s st s st n n = true) : CallsP Try.prog 25 [tideP s st n lo hi, tideP s st n lo' hi'] (.tup [tideP (zi (bif mgoB n lo hi lo' hi' then 0 else 18) s) (zi (bif mgoB n lo hi lo' hi' then 0 else 18) st) (zn (bif mgoB n lo hi lo' hi' then 0 else 18) n) ((ml lo hi lo' hi')) ((mh lo hi lo' hi')), .one (.g (.int .i64 (bif mgoB n lo hi lo' hi' then 0 else 18)))]) := by
  refine CallsP_of Try.func25 rfl (by rw [Try.ntmps25]; simp) ?_
  simp only [Try.ntmps25, List.map_cons, List.map_nil, PT.tv, argEnv, Nat.zero_add, Nat.reduceAdd]
  repeat' (first
    | (with_reducible refine AW_seq_k fun K hK => ?_)
    | ((first | (with_reducible refine And.intro ?_ ?_) | (with_reducible refine Need.mk ?_)); focus (first | exact True.intro | (with_reducible assumption) | omega | (refine ⟨?_, ?_⟩ <;> omega) | (intro _; first | exact True.intro | (with_reducible assumption) | omega) | (intros; (repeat' (first | exact True.intro | omega | (with_reducible assumption) | (with_reducible refine And.intro ?_ ?_))); done) | (simp (disch := omega) only [Bool.and_eq_true, Bool.or_eq_true, decide_eq_true_eq, bne_iff_ne, ne_eq] at *; first | done | omega | (intros; omega)) | (simp; done) | (simp; omega) | (simp +contextual; done) | (intro h; rw [h]; rfl) | (intros; simp_all; done)))
    | (with_reducible refine AW_skip ?_)
    | (with_reducible refine AW_exit ?_)
    | (with_reducible refine AW_ret ?_)
    | (with_reducible refine retK_n ?_)
    | (with_reducible refine retK_n' ?_)
    | (with_reducible refine retH_n rfl rfl rfl ?_)
    | (with_reducible refine retH_n' rfl rfl rfl ?_)
    | (with_reducible refine AW_condI ?_)
    | (with_reducible refine AW_block ?_)
    | ((with_reducible refine condN_t ?_ ?_) <;> (intro hc; (try simp only [Bool.and_eq_true, Bool.or_eq_true, Bool.not_eq_true', Bool.and_eq_false_iff, Bool.or_eq_false_iff, decide_eq_true_eq, decide_eq_false_iff_not, bne_iff_ne, beq_iff_eq, reduceCtorEq, bne_eq_false_iff_eq, beq_eq_false_iff_ne, Bool.not_eq_false', Int.not_le, Int.not_lt, Bool.not_not] at hc); (skip); (try (exfalso; first | contradiction | omega))))
    | (with_reducible refine AW_regionP 0 [0, 1] ?_)
    | (with_reducible refine AW_regionP 1 [2, 3, 4] ?_)
    | (with_reducible refine AW_regionP 2 [2, 3, 4, 6] ?_)
    | (with_reducible refine AW_regionP 3 [2, 3, 4, 6, 7] ?_)
    | (with_reducible refine AW_regionP 4 [4] ?_)
    | (with_reducible refine AW_regionP 5 [2, 3, 4] ?_)
    | (with_reducible refine AW_regionP 6 [4] ?_)
    | (with_reducible refine AW_regionP 7 [2, 3, 4] ?_)
    | (with_reducible refine AW_regionP 8 [2, 3, 4, 8] ?_)
    | (with_reducible refine AW_regionP 9 [2, 3, 4, 8, 9] ?_)
    | (with_reducible refine AW_regionP 10 [2, 3, 4, 8, 9] ?_)
    | ((with_reducible refine AW_prune (c := Code.region 11 _ true) [2, 3, 4, 8, 9] ?_); (with_reducible refine AW_regionD ?_ ?_ ?_ ?_); (focus kernel_rfl); (focus kernel_rfl); (focus kernel_rfl))
    | (with_reducible refine AW_regionP 12 [2, 3, 4, 8, 9, 10, 11] ?_)
    | (with_reducible refine AW_regionP 13 [4] ?_)
    | (with_reducible refine AW_regionP 14 [2, 3, 4, 8, 9, 10] ?_)
    | (with_reducible refine AW_regionP 15 [4, 8] ?_)
    | ((with_reducible refine And.intro ?_ ?_); focus ((with_reducible show chkR _ _ _ = true); kernel_rfl))
    | (refine callN_q (k := 17) fnok_17 (rvalid_p _ _ _ _ _) ?_ ?_)
    | (refine callN_q (k := 61) fnok_61 (ralike_p _ _ _ _ _ _ _ _ _ _) ?_ ?_)
    | (refine callDN_q (k := 62) fnok_62 (rmeet_p _ _ _ _) ?_ ?_)
    | ((with_reducible refine AW_loopQ (c := (Code.seq (Code.seq (Code.region 9 _ _) _) _)) (ι := Nat) [2, 3, 4, 8] (fun k => [(9, iA .i64 (k : Int))]) (fun k => [(3, [.iv (.g (.int .i64 s)), .iv (.g (.int .i64 st)), .slc 4 0 (k) 2]), (4, rowW (fW (ml lo hi lo' hi') (mh lo hi lo' hi') k))]) (fun k => k ≤ n ∧ (∀ i, i < k → mE (lo i) (hi i) (lo' i) (hi' i) = 0)) (fun k => n - k) 0 ?lg9 ?l19 ?l29 ?li9 ?lr9); (case' lg9 => rintro k _); (case' li9 => try (exact ⟨Nat.zero_le _, fun i hi => absurd hi (Nat.not_lt_zero _)⟩)); (case' lr9 => rintro k ⟨h1, h2⟩ KR hR9; skip; simp only [keepE, hupd, hset, lk, if_true, if_false, Nat.reduceEqDiff, reduceIte, List.cons_append, List.nil_append, spanF0, spanF1, rowW_push, rowW_purge, rowW_len, fW_len, List.length_append, List.length_singleton, maxLen, callDK_t, zi_0, zi_1, zi_3, zi_6, zi_18, zn_0, zn_1, zn_3, zn_6, zn_18, hv, hv2, hs]))
    | ((with_reducible refine hR9 _ (k + 1) ?_); (try clear hR9 KR))
    | ((with_reducible refine Told.mk ?_); simp only [go_sem, reduceIte, reduceCtorEq, Nat.reduceAdd, Nat.reduceLT, Nat.reduceLeDiff, Nat.reduceEqDiff, Nat.reduceMul, Nat.reduceSub, Nat.reduceBEq, spanF0, spanF1, rowW_push, rowW_purge, rowW_len, fW_len, List.length_append, List.length_singleton, maxLen, callDK_t, zi_0, zi_1, zi_3, zi_6, zi_18, zn_0, zn_1, zn_3, zn_6, zn_18, hv, hv2, hs] <;> (first | exact True.intro | (((try simp (disch := omega) only [seaWrap, Int.natCast_add, Int.cast_ofNat_Int, and_true, true_and, and_self, fW_s]); (repeat' (first | exact True.intro | omega | rfl | (with_reducible assumption) | (with_reducible refine And.intro ?_ ?_) | (exact wkC_eq rfl (rowW_iv _)) | (exact all_succ (by assumption) (by omega)) | (simp only [fW_s]))); done)) | (simp [fW, rowW, wkC]) | (refine Stuck.out ?_)))
    | ((fail_if_success (with_reducible show AW _ _ _ _)); simp (maxSteps := 2000000) only [go_sem, reduceIte, reduceCtorEq, Nat.reduceAdd, Nat.reduceLT, Nat.reduceLeDiff, Nat.reduceEqDiff, Nat.reduceMul, Nat.reduceSub, Nat.reduceBEq, Try.f25, zc_24, ty_24, fnok_17, fo_24, fnok_61, of_24_0, ty_3, of_24_1, pl_24_0, pl_24_1, of_24_2, ty_22, le_22, sl_22, ar_22, ty_31, fnok_62, zc_31, spanF0, spanF1, rowW_push, rowW_purge, rowW_len, fW_len, List.length_append, List.length_singleton, maxLen, callDK_t, zi_0, zi_1, zi_3, zi_6, zi_18, zn_0, zn_1, zn_3, zn_6, zn_18, hv, hv2, hs])
    | ((fail_if_success (with_reducible show AW _ _ _ _)); simp (disch := omega) only [seaWrap, seaDiv, seaMod])
    | ((with_reducible refine hK _ ?_); clear hK K)
    | (with_reducible apply_assumption -exfalso))
  all_goals (first | (have e := mgoB_f (n := n) (by assumption) (by assumption); rw [e]; exact ⟨⟨rfl, rfl, rfl⟩, rfl⟩) | (obtain rfl : k = n := (by omega); have e := mgoB_t (n := k) (k := k) (by omega) h2; rw [e]; exact ⟨fun c hc => rowW_iv _ c hc, ⟨rfl, rfl, rfl, fun i o hi ho => fW_eqv _ _ _ _ _ hi ho⟩, rfl⟩))

theorem rm_p (s st s' st' : Int) (n n' : Nat) (lo hi lo' hi' : Nat → Int) : CallsP Try.prog 25 [tideP s st n lo hi, tideP s' st' n' lo' hi'] (.tup [tideP (zi (mtE s st s' st' n n' lo hi lo' hi') s) (zi (mtE s st s' st' n n' lo hi lo' hi') st) (zn (mtE s st s' st' n n' lo hi lo' hi') n) ((ml lo hi lo' hi')) ((mh lo hi lo' hi')), .one (.g (.int .i64 (mtE s st s' st' n n' lo hi lo' hi')))]) := by
  cases hh : (tval s st n lo hi && tval s' st' n' lo' hi') with
  | false =>
    have e : mtE s st s' st' n n' lo hi lo' hi' = 1 := by unfold mtE bE; rw [hh]; rfl
    rw [e]; exact rm1 s st s' st' n n' lo hi lo' hi' hh
  | true =>
    simp only [Bool.and_eq_true] at hh
    obtain ⟨hv, hv2⟩ := hh
    by_cases hs : s = s' ∧ st = st' ∧ n = n'
    · obtain ⟨rfl, rfl, rfl⟩ := hs
      have r := rmx s st n lo hi lo' hi' hv hv2 (tval_tv hv).n1 (decide_eq_true ⟨rfl, rfl, rfl⟩)
      have e : mtE s st s st n n lo hi lo' hi' = bif mgoB n lo hi lo' hi' then 0 else 18 := by unfold mtE bE smB; rw [hv, hv2]; simp
      rw [e]; exact r
    · have e : mtE s st s' st' n n' lo hi lo' hi' = 6 := by unfold mtE bE smB; rw [hv, hv2, decide_eq_false hs]; rfl
      rw [e]; exact rm6 s st s' st' n n' lo hi lo' hi' hv hv2 (decide_eq_false hs)

set_option maxRecDepth 100000 in
set_option maxHeartbeats 4000000 in
theorem both_j1 (s st s' st' : Int) (n n' : Nat) (lo hi lo' hi' : Nat → Int) (hh : (tval s st n lo hi && tval s' st' n' lo' hi') = false) : CallsP Try.prog 59 [tideP s st n lo hi, tideP s' st' n' lo' hi', .one (.g (.func (.func 63) #[] #[]))] (.tup [tideP (zi (1) s) (zi (1) st) (zn (1) n) ((jl lo hi lo' hi')) ((jh lo hi lo' hi')), .one (.g (.int .i64 (1)))]) := by
  refine CallsP_of Try.func59 rfl (by rw [Try.ntmps59]; simp) ?_
  simp only [Try.ntmps59, List.map_cons, List.map_nil, PT.tv, argEnv, Nat.zero_add, Nat.reduceAdd]
  repeat' (first
    | (with_reducible refine AW_seq_k fun K hK => ?_)
    | ((first | (with_reducible refine And.intro ?_ ?_) | (with_reducible refine Need.mk ?_)); focus (first | exact True.intro | (with_reducible assumption) | omega | (refine ⟨?_, ?_⟩ <;> omega) | (intro _; first | exact True.intro | (with_reducible assumption) | omega) | (intros; (repeat' (first | exact True.intro | omega | (with_reducible assumption) | (with_reducible refine And.intro ?_ ?_))); done) | (simp (disch := omega) only [Bool.and_eq_true, Bool.or_eq_true, decide_eq_true_eq, bne_iff_ne, ne_eq] at *; first | done | omega | (intros; omega)) | (simp; done) | (simp; omega) | (simp +contextual; done) | (intro h; rw [h]; rfl) | (intros; simp_all; done)))
    | (with_reducible refine AW_skip ?_)
    | (with_reducible refine AW_exit ?_)
    | (with_reducible refine AW_ret ?_)
    | (with_reducible refine retK_n ?_)
    | (with_reducible refine retK_n' ?_)
    | (with_reducible refine retH_n rfl rfl rfl ?_)
    | (with_reducible refine retH_n' rfl rfl rfl ?_)
    | (with_reducible refine AW_condI ?_)
    | (with_reducible refine AW_block ?_)
    | ((with_reducible refine condN_t ?_ ?_) <;> (intro hc; (try simp only [Bool.and_eq_true, Bool.or_eq_true, Bool.not_eq_true', Bool.and_eq_false_iff, Bool.or_eq_false_iff, decide_eq_true_eq, decide_eq_false_iff_not, bne_iff_ne, beq_iff_eq, reduceCtorEq, bne_eq_false_iff_eq, beq_eq_false_iff_ne, Bool.not_eq_false', Int.not_le, Int.not_lt, Bool.not_not] at hc); (skip); (try (exfalso; first | contradiction | omega))))
    | (with_reducible refine AW_regionP 0 [0, 1, 2] ?_)
    | (with_reducible refine AW_regionP 1 [2, 3, 4, 6] ?_)
    | (with_reducible refine AW_regionP 2 [6] ?_)
    | (with_reducible refine AW_regionP 3 [2, 3, 4, 6] ?_)
    | (with_reducible refine AW_regionP 4 [6] ?_)
    | (with_reducible refine AW_regionP 5 [2, 3, 4, 6] ?_)
    | (with_reducible refine AW_regionP 6 [3, 6, 8, 9] ?_)
    | (with_reducible refine AW_regionP 7 [6] ?_)
    | (with_reducible refine AW_regionP 8 [3, 6, 8] ?_)
    | (refine callN_q (k := 18) fnok_18 (valid_p _ _ _ _ _) ?_ ?_)
    | (refine callGN_q (k := 18) fnok_18 (fun hg => valid_p _ _ _ _ _) ?_ ?_)
    | ((fail_if_success (with_reducible show AW _ _ _ _)); simp (maxSteps := 2000000) only [go_sem, reduceIte, reduceCtorEq, Nat.reduceAdd, Nat.reduceLT, Nat.reduceLeDiff, Nat.reduceEqDiff, Nat.reduceMul, Nat.reduceSub, Nat.reduceBEq, Try.f59, zc_24, ty_24, fnok_18, fo_24, of_24_0, ty_3, of_24_1, of_24_2, ty_22, le_22, pl_24_0, pl_24_1, pl_24_2, zi_0, zi_1, zi_3, zi_6, zi_18, zn_0, zn_1, zn_3, zn_6, zn_18])
    | ((with_reducible refine hK _ ?_); clear hK K))
  all_goals (first | omega | (simp_all; done) | (simp_all; omega) | exact ⟨⟨rfl, rfl, ⟨rfl, rfl⟩, trivial⟩, rfl⟩ | exact ⟨rfl, fun i o _ _ => IV.eqv_refl _⟩ | exact fun i o _ _ => IV.eqv_refl _ | skip)

set_option maxRecDepth 100000 in
set_option maxHeartbeats 4000000 in
theorem both_j6 (s st s' st' : Int) (n n' : Nat) (lo hi lo' hi' : Nat → Int) (hv : tval s st n lo hi = true) (hv2 : tval s' st' n' lo' hi' = true) (hs : ¬ (s = s' ∧ st = st' ∧ n = n')) : CallsP Try.prog 59 [tideP s st n lo hi, tideP s' st' n' lo' hi', .one (.g (.func (.func 63) #[] #[]))] (.tup [tideP (zi (6) s) (zi (6) st) (zn (6) n) ((jl lo hi lo' hi')) ((jh lo hi lo' hi')), .one (.g (.int .i64 (6)))]) := by
  refine CallsP_of Try.func59 rfl (by rw [Try.ntmps59]; simp) ?_
  simp only [Try.ntmps59, List.map_cons, List.map_nil, PT.tv, argEnv, Nat.zero_add, Nat.reduceAdd]
  repeat' (first
    | (with_reducible refine AW_seq_k fun K hK => ?_)
    | ((first | (with_reducible refine And.intro ?_ ?_) | (with_reducible refine Need.mk ?_)); focus (first | exact True.intro | (with_reducible assumption) | omega | (refine ⟨?_, ?_⟩ <;> omega) | (intro _; first | exact True.intro | (with_reducible assumption) | omega) | (intros; (repeat' (first | exact True.intro | omega | (with_reducible assumption) | (with_reducible refine And.intro ?_ ?_))); done) | (simp (disch := omega) only [Bool.and_eq_true, Bool.or_eq_true, decide_eq_true_eq, bne_iff_ne, ne_eq] at *; first | done | omega | (intros; omega)) | (simp; done) | (simp; omega) | (simp +contextual; done) | (intro h; rw [h]; rfl) | (intros; simp_all; done)))
    | (with_reducible refine AW_skip ?_)
    | (with_reducible refine AW_exit ?_)
    | (with_reducible refine AW_ret ?_)
    | (with_reducible refine retK_n ?_)
    | (with_reducible refine retK_n' ?_)
    | (with_reducible refine retH_n rfl rfl rfl ?_)
    | (with_reducible refine retH_n' rfl rfl rfl ?_)
    | (with_reducible refine AW_condI ?_)
    | (with_reducible refine AW_block ?_)
    | ((with_reducible refine condN_t ?_ ?_) <;> (intro hc; (try simp only [Bool.and_eq_true, Bool.or_eq_true, Bool.not_eq_true', Bool.and_eq_false_iff, Bool.or_eq_false_iff, decide_eq_true_eq, decide_eq_false_iff_not, bne_iff_ne, beq_iff_eq, reduceCtorEq, bne_eq_false_iff_eq, beq_eq_false_iff_ne, Bool.not_eq_false', Int.not_le, Int.not_lt, Bool.not_not] at hc); (skip); (try (exfalso; first | contradiction | omega))))
    | (with_reducible refine AW_regionP 0 [0, 1, 2] ?_)
    | (with_reducible refine AW_regionP 1 [2, 3, 4, 6] ?_)
    | (with_reducible refine AW_regionP 2 [6] ?_)
    | (with_reducible refine AW_regionP 3 [2, 3, 4, 6] ?_)
    | (with_reducible refine AW_regionP 4 [6] ?_)
    | (with_reducible refine AW_regionP 5 [2, 3, 4, 6] ?_)
    | (with_reducible refine AW_regionP 6 [3, 6, 8, 9] ?_)
    | (with_reducible refine AW_regionP 7 [6] ?_)
    | (with_reducible refine AW_regionP 8 [3, 6, 8] ?_)
    | (refine callN_q (k := 18) fnok_18 (valid_p _ _ _ _ _) ?_ ?_)
    | (refine callGN_q (k := 18) fnok_18 (fun hg => valid_p _ _ _ _ _) ?_ ?_)
    | ((fail_if_success (with_reducible show AW _ _ _ _)); simp (maxSteps := 2000000) only [go_sem, reduceIte, reduceCtorEq, Nat.reduceAdd, Nat.reduceLT, Nat.reduceLeDiff, Nat.reduceEqDiff, Nat.reduceMul, Nat.reduceSub, Nat.reduceBEq, Try.f59, zc_24, ty_24, fnok_18, fo_24, of_24_0, ty_3, of_24_1, of_24_2, ty_22, le_22, pl_24_0, pl_24_1, pl_24_2, zi_0, zi_1, zi_3, zi_6, zi_18, zn_0, zn_1, zn_3, zn_6, zn_18, hv, hv2])
    | ((with_reducible refine hK _ ?_); clear hK K))
  all_goals (first | omega | (simp_all; done) | (simp_all; omega) | exact ⟨⟨rfl, rfl, ⟨rfl, rfl⟩, trivial⟩, rfl⟩ | exact ⟨rfl, fun i o _ _ => IV.eqv_refl _⟩ | exact fun i o _ _ => IV.eqv_refl _ | skip)

set_option maxRecDepth 100000 in
set_option maxHeartbeats 4000000 in
theorem both_j0 (s st : Int) (n : Nat) (lo hi lo' hi' : Nat → Int) (hv : tval s st n lo hi = true) (hv2 : tval s st n lo' hi' = true) (h200 : n ≤ 200) : CallsP Try.prog 59 [tideP s st n lo hi, tideP s st n lo' hi', .one (.g (.func (.func 63) #[] #[]))] (.tup [tideP (zi (0) s) (zi (0) st) (zn (0) n) ((jl lo hi lo' hi')) ((jh lo hi lo' hi')), .one (.g (.int .i64 (0)))]) := by
  refine CallsP_of Try.func59 rfl (by rw [Try.ntmps59]; simp) ?_
  simp only [Try.ntmps59, List.map_cons, List.map_nil, PT.tv, argEnv, Nat.zero_add, Nat.reduceAdd]
  repeat' (first
    | (with_reducible refine AW_seq_k fun K hK => ?_)
    | ((first | (with_reducible refine And.intro ?_ ?_) | (with_reducible refine Need.mk ?_)); focus (first | exact True.intro | (with_reducible assumption) | omega | (refine ⟨?_, ?_⟩ <;> omega) | (intro _; first | exact True.intro | (with_reducible assumption) | omega) | (intros; (repeat' (first | exact True.intro | omega | (with_reducible assumption) | (with_reducible refine And.intro ?_ ?_))); done) | (simp (disch := omega) only [Bool.and_eq_true, Bool.or_eq_true, decide_eq_true_eq, bne_iff_ne, ne_eq] at *; first | done | omega | (intros; omega)) | (simp; done) | (simp; omega) | (simp +contextual; done) | (intro h; rw [h]; rfl) | (intros; simp_all; done)))
    | (with_reducible refine AW_skip ?_)
    | (with_reducible refine AW_exit ?_)
    | (with_reducible refine AW_ret ?_)
    | (with_reducible refine retK_n ?_)
    | (with_reducible refine retK_n' ?_)
    | (with_reducible refine retH_n rfl rfl rfl ?_)
    | (with_reducible refine retH_n' rfl rfl rfl ?_)
    | (with_reducible refine AW_condI ?_)
    | (with_reducible refine AW_block ?_)
    | ((with_reducible refine condN_t ?_ ?_) <;> (intro hc; (try simp only [Bool.and_eq_true, Bool.or_eq_true, Bool.not_eq_true', Bool.and_eq_false_iff, Bool.or_eq_false_iff, decide_eq_true_eq, decide_eq_false_iff_not, bne_iff_ne, beq_iff_eq, reduceCtorEq, bne_eq_false_iff_eq, beq_eq_false_iff_ne, Bool.not_eq_false', Int.not_le, Int.not_lt, Bool.not_not] at hc); (skip); (try (exfalso; first | contradiction | omega))))
    | (with_reducible refine AW_regionP 0 [0, 1, 2] ?_)
    | (with_reducible refine AW_regionP 1 [2, 3, 4, 6] ?_)
    | (with_reducible refine AW_regionP 2 [6] ?_)
    | (with_reducible refine AW_regionP 3 [2, 3, 4, 6] ?_)
    | (with_reducible refine AW_regionP 4 [6] ?_)
    | (with_reducible refine AW_regionP 5 [2, 3, 4, 6] ?_)
    | (with_reducible refine AW_regionP 6 [3, 6, 8, 9] ?_)
    | (with_reducible refine AW_regionP 7 [6] ?_)
    | (with_reducible refine AW_regionP 8 [3, 6, 8] ?_)
    | (refine callN_q (k := 18) fnok_18 (valid_p _ _ _ _ _) ?_ ?_)
    | (refine callGN_q (k := 18) fnok_18 (fun hg => valid_p _ _ _ _ _) ?_ ?_)
    | (refine callN_q (k := 63) fnok_63 (rjoin63 _ _ _ _ _ _ (Nat.le_refl _) h200 (hE_j hv hv2 rfl)) ?_ ?_)
    | (refine callDN_q (k := 63) fnok_63 (rjoin63 _ _ _ _ _ _ (Nat.le_refl _) h200 (hE_j hv hv2 rfl)) ?_ ?_)
    | (refine callDGN_q (k := 63) fnok_63 (fun hg => rjoin63 _ _ _ _ _ _ (Nat.le_refl _) h200 (hE_j hv hv2 rfl)) ?_ ?_)
    | (refine callGN_q (k := 63) fnok_63 (fun hg => rjoin63 _ _ _ _ _ _ (Nat.le_refl _) h200 (hE_j hv hv2 rfl)) ?_ ?_)
    | ((fail_if_success (with_reducible show AW _ _ _ _)); simp (maxSteps := 2000000) only [go_sem, reduceIte, reduceCtorEq, Nat.reduceAdd, Nat.reduceLT, Nat.reduceLeDiff, Nat.reduceEqDiff, Nat.reduceMul, Nat.reduceSub, Nat.reduceBEq, Try.f59, zc_24, ty_24, fnok_18, fo_24, of_24_0, ty_3, of_24_1, of_24_2, ty_22, le_22, pl_24_0, pl_24_1, pl_24_2, zi_0, zi_1, zi_3, zi_6, zi_18, zn_0, zn_1, zn_3, zn_6, zn_18, hv, hv2])
    | ((with_reducible refine hK _ ?_); clear hK K))
  all_goals (first | omega | (simp_all; done) | (simp_all; omega) | exact ⟨⟨rfl, rfl, ⟨rfl, rfl⟩, trivial⟩, rfl⟩ | exact ⟨rfl, fun i o _ _ => IV.eqv_refl _⟩ | exact fun i o _ _ => IV.eqv_refl _ | skip)

theorem both_j_p (s st s' st' : Int) (n n' : Nat) (lo hi lo' hi' : Nat → Int) : CallsP Try.prog 59 [tideP s st n lo hi, tideP s' st' n' lo' hi', .one (.g (.func (.func 63) #[] #[]))] (.tup [tideP (zi (jtE s st s' st' n n' lo hi lo' hi') s) (zi (jtE s st s' st' n n' lo hi lo' hi') st) (zn (jtE s st s' st' n n' lo hi lo' hi') n) ((jl lo hi lo' hi')) ((jh lo hi lo' hi')), .one (.g (.int .i64 (jtE s st s' st' n n' lo hi lo' hi')))]) := by
  cases hh : (tval s st n lo hi && tval s' st' n' lo' hi') with
  | false =>
    have e : jtE s st s' st' n n' lo hi lo' hi' = 1 := by unfold jtE bE; rw [hh]; rfl
    rw [e]; exact both_j1 s st s' st' n n' lo hi lo' hi' hh
  | true =>
    simp only [Bool.and_eq_true] at hh
    obtain ⟨hv, hv2⟩ := hh
    by_cases hs : s = s' ∧ st = st' ∧ n = n'
    · obtain ⟨rfl, rfl, rfl⟩ := hs
      have e : jtE s st s st n n lo hi lo' hi' = 0 := by unfold jtE bE smB; rw [hv, hv2]; simp
      rw [e]; exact both_j0 s st n lo hi lo' hi' hv hv2 (tval_tv hv).n1
    · have e : jtE s st s' st' n n' lo hi lo' hi' = 6 := by unfold jtE bE smB; rw [hv, hv2, decide_eq_false hs]; rfl
      rw [e]; exact both_j6 s st s' st' n n' lo hi lo' hi' hv hv2 hs

set_option maxRecDepth 100000 in
set_option maxHeartbeats 4000000 in
theorem tj_p (s st s' st' : Int) (n n' : Nat) (lo hi lo' hi' : Nat → Int) : CallsP Try.prog 27 [tideP s st n lo hi, tideP s' st' n' lo' hi'] (.tup [tideP (zi (jtE s st s' st' n n' lo hi lo' hi') s) (zi (jtE s st s' st' n n' lo hi lo' hi') st) (zn (jtE s st s' st' n n' lo hi lo' hi') n) ((jl lo hi lo' hi')) ((jh lo hi lo' hi')), .one (.g (.int .i64 (jtE s st s' st' n n' lo hi lo' hi')))]) := by
  refine CallsP_of Try.func27 rfl (by rw [Try.ntmps27]; simp) ?_
  simp only [Try.ntmps27, List.map_cons, List.map_nil, PT.tv, argEnv, Nat.zero_add, Nat.reduceAdd]
  repeat' (first
    | (with_reducible refine AW_seq_k fun K hK => ?_)
    | ((first | (with_reducible refine And.intro ?_ ?_) | (with_reducible refine Need.mk ?_)); focus (first | exact True.intro | (with_reducible assumption) | omega | (refine ⟨?_, ?_⟩ <;> omega) | (intro _; first | exact True.intro | (with_reducible assumption) | omega) | (intros; (repeat' (first | exact True.intro | omega | (with_reducible assumption) | (with_reducible refine And.intro ?_ ?_))); done) | (simp (disch := omega) only [Bool.and_eq_true, Bool.or_eq_true, decide_eq_true_eq, bne_iff_ne, ne_eq] at *; first | done | omega | (intros; omega)) | (simp; done) | (simp; omega) | (simp +contextual; done) | (intro h; rw [h]; rfl) | (intros; simp_all; done)))
    | (with_reducible refine AW_skip ?_)
    | (with_reducible refine AW_exit ?_)
    | (with_reducible refine AW_ret ?_)
    | (with_reducible refine retK_n ?_)
    | (with_reducible refine retK_n' ?_)
    | (with_reducible refine retH_n rfl rfl rfl ?_)
    | (with_reducible refine retH_n' rfl rfl rfl ?_)
    | (with_reducible refine AW_condI ?_)
    | (with_reducible refine AW_block ?_)
    | ((with_reducible refine condN_t ?_ ?_) <;> (intro hc; (try simp only [Bool.and_eq_true, Bool.or_eq_true, Bool.not_eq_true', Bool.and_eq_false_iff, Bool.or_eq_false_iff, decide_eq_true_eq, decide_eq_false_iff_not, bne_iff_ne, beq_iff_eq, reduceCtorEq, bne_eq_false_iff_eq, beq_eq_false_iff_ne, Bool.not_eq_false', Int.not_le, Int.not_lt, Bool.not_not] at hc); (try (exfalso; first | contradiction | omega))))
    | (with_reducible refine AW_regionP 0 [0, 1] ?_)
    | (with_reducible refine AW_regionP 1 [2, 3, 4] ?_)
    | (refine callN_q (k := 59) fnok_59 (both_j_p _ _ _ _ _ _ _ _ _ _) ?_ ?_)
    | ((fail_if_success (with_reducible show AW _ _ _ _)); simp (maxSteps := 2000000) only [go_sem, reduceIte, reduceCtorEq, Nat.reduceAdd, Nat.reduceLT, Nat.reduceLeDiff, Nat.reduceEqDiff, Nat.reduceMul, Nat.reduceSub, Nat.reduceBEq, Try.f27, zc_24, ty_24, fnok_59])
    | ((with_reducible refine hK _ ?_); clear hK K))
  all_goals (first | omega | (simp_all; done) | (simp_all; omega) | exact ⟨⟨rfl, rfl, ⟨rfl, rfl⟩, trivial⟩, rfl⟩ | exact ⟨rfl, fun i o _ _ => IV.eqv_refl _⟩ | exact fun i o _ _ => IV.eqv_refl _ | skip)

set_option maxRecDepth 100000 in
set_option maxHeartbeats 4000000 in
theorem rj1 (s st s' st' : Int) (n n' : Nat) (lo hi lo' hi' : Nat → Int) (hh : (tval s st n lo hi && tval s' st' n' lo' hi') = false) : CallsP Try.prog 28 [tideP s st n lo hi, tideP s' st' n' lo' hi'] (.tup [tideP (zi (1) s) (zi (1) st) (zn (1) n) ((jl lo hi lo' hi')) ((jh lo hi lo' hi')), .one (.g (.int .i64 (1)))]) := by
  refine CallsP_of Try.func28 rfl (by rw [Try.ntmps28]; simp) ?_
  simp only [Try.ntmps28, List.map_cons, List.map_nil, PT.tv, argEnv, Nat.zero_add, Nat.reduceAdd]
  repeat' (first
    | (with_reducible refine AW_seq_k fun K hK => ?_)
    | ((first | (with_reducible refine And.intro ?_ ?_) | (with_reducible refine Need.mk ?_)); focus (first | exact True.intro | (with_reducible assumption) | omega | (refine ⟨?_, ?_⟩ <;> omega) | (intro _; first | exact True.intro | (with_reducible assumption) | omega) | (intros; (repeat' (first | exact True.intro | omega | (with_reducible assumption) | (with_reducible refine And.intro ?_ ?_))); done) | (simp (disch := omega) only [Bool.and_eq_true, Bool.or_eq_true, decide_eq_true_eq, bne_iff_ne, ne_eq] at *; first | done | omega | (intros; omega)) | (simp; done) | (simp; omega) | (simp +contextual; done) | (intro h; rw [h]; rfl) | (intros; simp_all; done)))
    | (with_reducible refine AW_skip ?_)
    | (with_reducible refine AW_exit ?_)
    | (with_reducible refine AW_ret ?_)
    | (with_reducible refine retK_n ?_)
    | (with_reducible refine retK_n' ?_)
    | (with_reducible refine retH_n rfl rfl rfl ?_)
    | (with_reducible refine retH_n' rfl rfl rfl ?_)
    | (with_reducible refine AW_condI ?_)
    | (with_reducible refine AW_block ?_)
    | ((with_reducible refine condN_t ?_ ?_) <;> (intro hc; (try simp only [Bool.and_eq_true, Bool.or_eq_true, Bool.not_eq_true', Bool.and_eq_false_iff, Bool.or_eq_false_iff, decide_eq_true_eq, decide_eq_false_iff_not, bne_iff_ne, beq_iff_eq, reduceCtorEq, bne_eq_false_iff_eq, beq_eq_false_iff_ne, Bool.not_eq_false', Int.not_le, Int.not_lt, Bool.not_not] at hc); (skip); (try (exfalso; first | contradiction | omega))))
    | (with_reducible refine AW_regionP 0 [0, 1] ?_)
    | (with_reducible refine AW_regionP 1 [2, 3, 4] ?_)
    | (with_reducible refine AW_regionP 2 [2, 3, 4, 6] ?_)
    | (with_reducible refine AW_regionP 3 [2, 3, 4, 6, 7] ?_)
    | (with_reducible refine AW_regionP 4 [4] ?_)
    | (with_reducible refine AW_regionP 5 [2, 3, 4] ?_)
    | (with_reducible refine AW_regionP 6 [4] ?_)
    | (with_reducible refine AW_regionP 7 [2, 3, 4] ?_)
    | (with_reducible refine AW_regionP 8 [2, 3, 4, 8] ?_)
    | (with_reducible refine AW_regionP 9 [2, 3, 4, 8, 9] ?_)
    | (with_reducible refine AW_regionP 10 [2, 3, 4, 8, 9] ?_)
    | ((with_reducible refine AW_prune (c := Code.region 11 _ true) [2, 3, 4, 8, 9] ?_); (with_reducible refine AW_regionD ?_ ?_ ?_ ?_); (focus kernel_rfl); (focus kernel_rfl); (focus kernel_rfl))
    | (with_reducible refine AW_regionP 12 [2, 3, 4, 8, 9, 10] ?_)
    | (with_reducible refine AW_regionP 13 [4, 8] ?_)
    | ((with_reducible refine And.intro ?_ ?_); focus ((with_reducible show chkR _ _ _ = true); kernel_rfl))
    | (refine callN_q (k := 17) fnok_17 (rvalid_p _ _ _ _ _) ?_ ?_)
    | (refine callN_q (k := 61) fnok_61 (ralike_p _ _ _ _ _ _ _ _ _ _) ?_ ?_)
    | ((fail_if_success (with_reducible show AW _ _ _ _)); simp (maxSteps := 2000000) only [go_sem, reduceIte, reduceCtorEq, Nat.reduceAdd, Nat.reduceLT, Nat.reduceLeDiff, Nat.reduceEqDiff, Nat.reduceMul, Nat.reduceSub, Nat.reduceBEq, Try.f28, zc_24, ty_24, fnok_17, fo_24, fnok_61, of_24_0, ty_3, of_24_1, pl_24_0, pl_24_1, of_24_2, ty_22, le_22, sl_22, ar_22, ty_31, fnok_57, zc_31, zi_0, zi_1, zi_3, zi_6, zi_18, zn_0, zn_1, zn_3, zn_6, zn_18])
    | ((fail_if_success (with_reducible show AW _ _ _ _)); simp (disch := omega) only [seaWrap, seaDiv, seaMod])
    | ((with_reducible refine hK _ ?_); clear hK K))
  all_goals (first | omega | (simp_all; done) | (simp_all; omega) | exact ⟨⟨rfl, rfl, ⟨rfl, rfl⟩, trivial⟩, rfl⟩ | exact ⟨rfl, fun i o _ _ => IV.eqv_refl _⟩ | exact fun i o _ _ => IV.eqv_refl _ | skip)

set_option maxRecDepth 100000 in
set_option maxHeartbeats 4000000 in
theorem rj6 (s st s' st' : Int) (n n' : Nat) (lo hi lo' hi' : Nat → Int) (hv : tval s st n lo hi = true) (hv2 : tval s' st' n' lo' hi' = true) (hs : smB s st s' st' n n' = false) : CallsP Try.prog 28 [tideP s st n lo hi, tideP s' st' n' lo' hi'] (.tup [tideP (zi (6) s) (zi (6) st) (zn (6) n) ((jl lo hi lo' hi')) ((jh lo hi lo' hi')), .one (.g (.int .i64 (6)))]) := by
  refine CallsP_of Try.func28 rfl (by rw [Try.ntmps28]; simp) ?_
  simp only [Try.ntmps28, List.map_cons, List.map_nil, PT.tv, argEnv, Nat.zero_add, Nat.reduceAdd]
  repeat' (first
    | (with_reducible refine AW_seq_k fun K hK => ?_)
    | ((first | (with_reducible refine And.intro ?_ ?_) | (with_reducible refine Need.mk ?_)); focus (first | exact True.intro | (with_reducible assumption) | omega | (refine ⟨?_, ?_⟩ <;> omega) | (intro _; first | exact True.intro | (with_reducible assumption) | omega) | (intros; (repeat' (first | exact True.intro | omega | (with_reducible assumption) | (with_reducible refine And.intro ?_ ?_))); done) | (simp (disch := omega) only [Bool.and_eq_true, Bool.or_eq_true, decide_eq_true_eq, bne_iff_ne, ne_eq] at *; first | done | omega | (intros; omega)) | (simp; done) | (simp; omega) | (simp +contextual; done) | (intro h; rw [h]; rfl) | (intros; simp_all; done)))
    | (with_reducible refine AW_skip ?_)
    | (with_reducible refine AW_exit ?_)
    | (with_reducible refine AW_ret ?_)
    | (with_reducible refine retK_n ?_)
    | (with_reducible refine retK_n' ?_)
    | (with_reducible refine retH_n rfl rfl rfl ?_)
    | (with_reducible refine retH_n' rfl rfl rfl ?_)
    | (with_reducible refine AW_condI ?_)
    | (with_reducible refine AW_block ?_)
    | ((with_reducible refine condN_t ?_ ?_) <;> (intro hc; (try simp only [Bool.and_eq_true, Bool.or_eq_true, Bool.not_eq_true', Bool.and_eq_false_iff, Bool.or_eq_false_iff, decide_eq_true_eq, decide_eq_false_iff_not, bne_iff_ne, beq_iff_eq, reduceCtorEq, bne_eq_false_iff_eq, beq_eq_false_iff_ne, Bool.not_eq_false', Int.not_le, Int.not_lt, Bool.not_not] at hc); (skip); (try (exfalso; first | contradiction | omega))))
    | (with_reducible refine AW_regionP 0 [0, 1] ?_)
    | (with_reducible refine AW_regionP 1 [2, 3, 4] ?_)
    | (with_reducible refine AW_regionP 2 [2, 3, 4, 6] ?_)
    | (with_reducible refine AW_regionP 3 [2, 3, 4, 6, 7] ?_)
    | (with_reducible refine AW_regionP 4 [4] ?_)
    | (with_reducible refine AW_regionP 5 [2, 3, 4] ?_)
    | (with_reducible refine AW_regionP 6 [4] ?_)
    | (with_reducible refine AW_regionP 7 [2, 3, 4] ?_)
    | (with_reducible refine AW_regionP 8 [2, 3, 4, 8] ?_)
    | (with_reducible refine AW_regionP 9 [2, 3, 4, 8, 9] ?_)
    | (with_reducible refine AW_regionP 10 [2, 3, 4, 8, 9] ?_)
    | ((with_reducible refine AW_prune (c := Code.region 11 _ true) [2, 3, 4, 8, 9] ?_); (with_reducible refine AW_regionD ?_ ?_ ?_ ?_); (focus kernel_rfl); (focus kernel_rfl); (focus kernel_rfl))
    | (with_reducible refine AW_regionP 12 [2, 3, 4, 8, 9, 10] ?_)
    | (with_reducible refine AW_regionP 13 [4, 8] ?_)
    | ((with_reducible refine And.intro ?_ ?_); focus ((with_reducible show chkR _ _ _ = true); kernel_rfl))
    | (refine callN_q (k := 17) fnok_17 (rvalid_p _ _ _ _ _) ?_ ?_)
    | (refine callN_q (k := 61) fnok_61 (ralike_p _ _ _ _ _ _ _ _ _ _) ?_ ?_)
    | ((fail_if_success (with_reducible show AW _ _ _ _)); simp (maxSteps := 2000000) only [go_sem, reduceIte, reduceCtorEq, Nat.reduceAdd, Nat.reduceLT, Nat.reduceLeDiff, Nat.reduceEqDiff, Nat.reduceMul, Nat.reduceSub, Nat.reduceBEq, Try.f28, zc_24, ty_24, fnok_17, fo_24, fnok_61, of_24_0, ty_3, of_24_1, pl_24_0, pl_24_1, of_24_2, ty_22, le_22, sl_22, ar_22, ty_31, fnok_57, zc_31, zi_0, zi_1, zi_3, zi_6, zi_18, zn_0, zn_1, zn_3, zn_6, zn_18, hv, hv2, hs])
    | ((fail_if_success (with_reducible show AW _ _ _ _)); simp (disch := omega) only [seaWrap, seaDiv, seaMod])
    | ((with_reducible refine hK _ ?_); clear hK K))
  all_goals (first | omega | (simp_all; done) | (simp_all; omega) | exact ⟨⟨rfl, rfl, ⟨rfl, rfl⟩, trivial⟩, rfl⟩ | exact ⟨rfl, fun i o _ _ => IV.eqv_refl _⟩ | exact fun i o _ _ => IV.eqv_refl _ | skip)

set_option maxRecDepth 100000 in
set_option maxHeartbeats 4000000 in
theorem rjx (s st : Int) (n : Nat) (lo hi lo' hi' : Nat → Int) (hv : tval s st n lo hi = true) (hv2 : tval s st n lo' hi' = true) (h200 : n ≤ 200) (hs : smB s st s st n n = true) : CallsP Try.prog 28 [tideP s st n lo hi, tideP s st n lo' hi'] (.tup [tideP (zi (0) s) (zi (0) st) (zn (0) n) ((jl lo hi lo' hi')) ((jh lo hi lo' hi')), .one (.g (.int .i64 (0)))]) := by
  refine CallsP_of Try.func28 rfl (by rw [Try.ntmps28]; simp) ?_
  simp only [Try.ntmps28, List.map_cons, List.map_nil, PT.tv, argEnv, Nat.zero_add, Nat.reduceAdd]
  repeat' (first
    | (with_reducible refine AW_seq_k fun K hK => ?_)
    | ((first | (with_reducible refine And.intro ?_ ?_) | (with_reducible refine Need.mk ?_)); focus (first | exact True.intro | (with_reducible assumption) | omega | (refine ⟨?_, ?_⟩ <;> omega) | (intro _; first | exact True.intro | (with_reducible assumption) | omega) | (intros; (repeat' (first | exact True.intro | omega | (with_reducible assumption) | (with_reducible refine And.intro ?_ ?_))); done) | (simp (disch := omega) only [Bool.and_eq_true, Bool.or_eq_true, decide_eq_true_eq, bne_iff_ne, ne_eq] at *; first | done | omega | (intros; omega)) | (simp; done) | (simp; omega) | (simp +contextual; done) | (intro h; rw [h]; rfl) | (intros; simp_all; done)))
    | (with_reducible refine AW_skip ?_)
    | (with_reducible refine AW_exit ?_)
    | (with_reducible refine AW_ret ?_)
    | (with_reducible refine retK_n ?_)
    | (with_reducible refine retK_n' ?_)
    | (with_reducible refine retH_n rfl rfl rfl ?_)
    | (with_reducible refine retH_n' rfl rfl rfl ?_)
    | (with_reducible refine AW_condI ?_)
    | (with_reducible refine AW_block ?_)
    | ((with_reducible refine condN_t ?_ ?_) <;> (intro hc; (try simp only [Bool.and_eq_true, Bool.or_eq_true, Bool.not_eq_true', Bool.and_eq_false_iff, Bool.or_eq_false_iff, decide_eq_true_eq, decide_eq_false_iff_not, bne_iff_ne, beq_iff_eq, reduceCtorEq, bne_eq_false_iff_eq, beq_eq_false_iff_ne, Bool.not_eq_false', Int.not_le, Int.not_lt, Bool.not_not] at hc); (skip); (try (exfalso; first | contradiction | omega))))
    | (with_reducible refine AW_regionP 0 [0, 1] ?_)
    | (with_reducible refine AW_regionP 1 [2, 3, 4] ?_)
    | (with_reducible refine AW_regionP 2 [2, 3, 4, 6] ?_)
    | (with_reducible refine AW_regionP 3 [2, 3, 4, 6, 7] ?_)
    | (with_reducible refine AW_regionP 4 [4] ?_)
    | (with_reducible refine AW_regionP 5 [2, 3, 4] ?_)
    | (with_reducible refine AW_regionP 6 [4] ?_)
    | (with_reducible refine AW_regionP 7 [2, 3, 4] ?_)
    | (with_reducible refine AW_regionP 8 [2, 3, 4, 8] ?_)
    | (with_reducible refine AW_regionP 9 [2, 3, 4, 8, 9] ?_)
    | (with_reducible refine AW_regionP 10 [2, 3, 4, 8, 9] ?_)
    | ((with_reducible refine AW_prune (c := Code.region 11 _ true) [2, 3, 4, 8, 9] ?_); (with_reducible refine AW_regionD ?_ ?_ ?_ ?_); (focus kernel_rfl); (focus kernel_rfl); (focus kernel_rfl))
    | (with_reducible refine AW_regionP 12 [2, 3, 4, 8, 9, 10] ?_)
    | (with_reducible refine AW_regionP 13 [4, 8] ?_)
    | ((with_reducible refine And.intro ?_ ?_); focus ((with_reducible show chkR _ _ _ = true); kernel_rfl))
    | (refine callN_q (k := 17) fnok_17 (rvalid_p _ _ _ _ _) ?_ ?_)
    | (refine callN_q (k := 61) fnok_61 (ralike_p _ _ _ _ _ _ _ _ _ _) ?_ ?_)
    | (refine callDN_q (k := 57) fnok_57 (rjoin_p _ _ _ _) ?_ ?_)
    | ((with_reducible refine AW_loopQ (c := (Code.seq (Code.seq (Code.region 9 _ _) _) _)) (ι := Nat) [2, 3, 4, 8] (fun k => [(9, iA .i64 (k : Int))]) (fun k => [(3, [.iv (.g (.int .i64 s)), .iv (.g (.int .i64 st)), .slc 4 0 (k) 2]), (4, rowW (fW (jl lo hi lo' hi') (jh lo hi lo' hi') k))]) (fun k => k ≤ n ∧ True) (fun k => n - k) 0 ?lg9 ?l19 ?l29 ?li9 ?lr9); (case' lg9 => rintro k _); (case' li9 => try (exact ⟨Nat.zero_le _, trivial⟩)); (case' lr9 => rintro k ⟨h1, h2⟩ KR hR9; skip; simp only [keepE, hupd, hset, lk, if_true, if_false, Nat.reduceEqDiff, reduceIte, List.cons_append, List.nil_append, spanF0, spanF1, rowW_push, rowW_purge, rowW_len, fW_len, List.length_append, List.length_singleton, maxLen, callDK_t, zi_0, zi_1, zi_3, zi_6, zi_18, zn_0, zn_1, zn_3, zn_6, zn_18, hv, hv2, hs]))
    | ((with_reducible refine hR9 _ (k + 1) ?_); (try clear hR9 KR))
    | ((with_reducible refine Told.mk ?_); simp only [go_sem, reduceIte, reduceCtorEq, Nat.reduceAdd, Nat.reduceLT, Nat.reduceLeDiff, Nat.reduceEqDiff, Nat.reduceMul, Nat.reduceSub, Nat.reduceBEq, spanF0, spanF1, rowW_push, rowW_purge, rowW_len, fW_len, List.length_append, List.length_singleton, maxLen, callDK_t, zi_0, zi_1, zi_3, zi_6, zi_18, zn_0, zn_1, zn_3, zn_6, zn_18, hv, hv2, hs] <;> (first | exact True.intro | (((try simp (disch := omega) only [seaWrap, Int.natCast_add, Int.cast_ofNat_Int, and_true, true_and, and_self, fW_s]); (repeat' (first | exact True.intro | omega | rfl | (with_reducible assumption) | (with_reducible refine And.intro ?_ ?_) | (exact wkC_eq rfl (rowW_iv _)) | (exact all_succ (by assumption) (by omega)) | (simp only [fW_s]))); done)) | (simp [fW, rowW, wkC]) | (refine Stuck.out ?_)))
    | ((fail_if_success (with_reducible show AW _ _ _ _)); simp (maxSteps := 2000000) only [go_sem, reduceIte, reduceCtorEq, Nat.reduceAdd, Nat.reduceLT, Nat.reduceLeDiff, Nat.reduceEqDiff, Nat.reduceMul, Nat.reduceSub, Nat.reduceBEq, Try.f28, zc_24, ty_24, fnok_17, fo_24, fnok_61, of_24_0, ty_3, of_24_1, pl_24_0, pl_24_1, of_24_2, ty_22, le_22, sl_22, ar_22, ty_31, fnok_57, zc_31, spanF0, spanF1, rowW_push, rowW_purge, rowW_len, fW_len, List.length_append, List.length_singleton, maxLen, callDK_t, zi_0, zi_1, zi_3, zi_6, zi_18, zn_0, zn_1, zn_3, zn_6, zn_18, hv, hv2, hs])
    | ((fail_if_success (with_reducible show AW _ _ _ _)); simp (disch := omega) only [seaWrap, seaDiv, seaMod])
    | ((with_reducible refine hK _ ?_); clear hK K)
    | (with_reducible apply_assumption -exfalso))
  all_goals (obtain rfl : k = n := (by omega); exact ⟨fun c hc => rowW_iv _ c hc, rfl, fun i o hi ho => fW_eqv _ _ _ _ _ hi ho⟩)

theorem rj_p (s st s' st' : Int) (n n' : Nat) (lo hi lo' hi' : Nat → Int) : CallsP Try.prog 28 [tideP s st n lo hi, tideP s' st' n' lo' hi'] (.tup [tideP (zi (jtE s st s' st' n n' lo hi lo' hi') s) (zi (jtE s st s' st' n n' lo hi lo' hi') st) (zn (jtE s st s' st' n n' lo hi lo' hi') n) ((jl lo hi lo' hi')) ((jh lo hi lo' hi')), .one (.g (.int .i64 (jtE s st s' st' n n' lo hi lo' hi')))]) := by
  cases hh : (tval s st n lo hi && tval s' st' n' lo' hi') with
  | false =>
    have e : jtE s st s' st' n n' lo hi lo' hi' = 1 := by unfold jtE bE; rw [hh]; rfl
    rw [e]; exact rj1 s st s' st' n n' lo hi lo' hi' hh
  | true =>
    simp only [Bool.and_eq_true] at hh
    obtain ⟨hv, hv2⟩ := hh
    by_cases hs : s = s' ∧ st = st' ∧ n = n'
    · obtain ⟨rfl, rfl, rfl⟩ := hs
      have e : jtE s st s st n n lo hi lo' hi' = 0 := by unfold jtE bE smB; rw [hv, hv2]; simp
      rw [e]; exact rjx s st n lo hi lo' hi' hv hv2 (tval_tv hv).n1 (decide_eq_true ⟨rfl, rfl, rfl⟩)
    · have e : jtE s st s' st' n n' lo hi lo' hi' = 6 := by unfold jtE bE smB; rw [hv, hv2, decide_eq_false hs]; rfl
      rw [e]; exact rj6 s st s' st' n n' lo hi lo' hi' hv hv2 (decide_eq_false hs)

end Go.Proofs.Ythfnmooeijneoaa
