/- G: walks on abstract states. -/
import Derived.Test.YthfnmooeijneoaaE
set_option linter.unusedVariables false
set_option linter.unusedSimpArgs false
namespace Go.Proofs.Ythfnmooeijneoaa
open Go.RowKit Go.Sea
attribute [local go_sem] callK_N gf gk gdrop lkL setL lsF ltAll rdyL bodyF roundQ roundS loopQ loopS jumpOf inLs yV yA bAV zipPut purgeG List.tail_cons Option.isNone_none Option.isNone_some callGK_f callDK_f callDGK_f retN retHN blockA arun_nil arun_plain arun_guard plainF guardF guardB arunD_nil arunD_plain arunD_guard plainDF guardDF guardDB AS.ent Eff.noApp Eff.tgt ftF AV.refs TV.refs CV.refs LV.refs Op.operands Call.operands List.append_toArray List.push_toArray List.flatMap_cons List.flatMap_nil List.toList_toArray Option.toArray List.reverse_cons List.reverse_nil opF AS.ev constA lk AS.get AV.tv AV.nd AS.eff AS.put argEnv PT.tv PV.av AV.mbOf hset hget TV.cells dstOk thenA gB isB toB TV.bool? TV.int? intF loadF storeF fieldF indexF lenF sliceF optI appF minmaxF ipCells fillF repC partsF lvsF TV.lv LV.tv purgeE purgeC purgeH AV.purge CV.purge AV.has TV.has CV.has LV.has calleeF argsF tvsF toPT toIV toIVs toPTs toPV civ isIv iA bA List.map_cons List.map_nil List.length_nil List.length_cons List.getElem?_cons_zero List.getElem?_cons_succ List.getElem?_nil Option.getD_some Option.getD_none Option.bind_some Option.bind_none List.take_succ_cons List.take_zero List.drop_succ_cons List.drop_zero List.take_nil List.drop_nil List.cons_append List.nil_append List.append_nil List.getD_cons_zero List.getD_cons_succ Option.map_some Option.map_none Option.isSome_some Option.isSome_none List.size_toArray List.any_cons List.any_nil List.mem_cons if_true if_false ite_true ite_false cond_true cond_false Nat.zero_add Nat.add_zero Nat.sub_zero Nat.le_refl Nat.zero_mul Nat.mul_zero Nat.one_mul Nat.mul_one Int.toNat_zero Int.toNat_natCast Bool.or_false Bool.false_or Bool.or_true Bool.true_or Bool.and_true Bool.true_and Bool.and_false Bool.false_and beq_self_eq_true beq_true beq_false Bool.not_true Bool.not_false and_true true_and and_false false_and and_self imp_self Bool.cond_false_right Bool.cond_true_left implies_true forall_const true_implies false_implies Option.some.injEq Prod.mk.injEq ne_eq not_false_eq_true not_true_eq_false eq_self Nat.lt_irrefl Nat.not_lt_zero boF seaMin seaMax seaNat1 seaNat2 Value.bool.injEq Value.int.injEq srcF lstC TV.dp IV.eqv PT.eqv PV.eqv All2 keepE hupd callZ_N AS.frz AS.frzW frzs frzsOk frzOk frzE frzA frzT frzC frzG frzH hdel cmpS eqF eqC gvs eqVs eqV decide_true resF tupA inlQ okL okGL okG nextL wkH wkC wkV nilA nilC AV.ok TV.ok CV.ok LV.ok okB forall_eq_or_imp forall_eq List.not_mem_nil List.mem_singleton true_or or_true or_false false_or exists_prop AV.t.injEq TV.one.injEq CV.iv.injEq IV.g.injEq TV.agg.injEq List.cons.injEq
theorem fnok_75 : fnOk Try.prog 75 = true := by kernel_rfl
theorem fnok_77 : fnOk Try.prog 77 = true := by kernel_rfl
theorem fnok_78 : fnOk Try.prog 78 = true := by kernel_rfl
theorem in_3 : inD Try.prog 3 = some .i64 := by kernel_rfl
theorem in_92 : inD Try.prog 92 = some .u64 := by kernel_rfl
theorem ty_92 : tyD Try.prog 92 = some (false, 1) := by kernel_rfl

theorem need_mono {d m : Int} {q : Nat} {sq : Nat → Int} (hk : kval d m q sq = true) {v w : Int} (h0 : 0 ≤ v) (h1 : v ≤ w) (h2 : w ≤ 100 * q) : needV d m sq v ≤ needV d m sq w := by
  obtain ⟨g1, g2, g3, g4, g5, g6, g7, g8⟩ := kval_kv hk
  unfold needV
  split <;> split
  · omega
  · have := g8 ((w - 1) / 100).toNat (by have := need_ix (q := q) (v := w) (by omega) h2; omega)
    omega
  · omega
  · have := g7 ((v - 1) / 100).toNat ((w - 1) / 100).toNat (by omega) (by have := need_ix (q := q) (v := w) (by omega) h2; omega)
    omega
def fC (d m : Int) (q : Nat) (sq : Nat → Int) (hd : Int) : Nat := (List.range (100 * q + 1)).countP fun (v : Nat) => decide (needV d m sq (v : Int) ≤ hd)
theorem fC_eq {d m : Int} {q : Nat} {sq : Nat → Int} {hd : Int} {i : Nat} (hi : i ≤ 100 * q + 1) (h1 : ∀ v : Nat, v < i → needV d m sq (v : Int) ≤ hd) (h2 : ∀ v : Nat, i ≤ v → v ≤ 100 * q → hd < needV d m sq (v : Int)) : fC d m q sq hd = i := by
  unfold fC
  have e : List.range (100 * q + 1) = List.range i ++ (List.range (100 * q + 1 - i)).map (i + ·) := by
    have := List.range_add (n := i) (m := 100 * q + 1 - i)
    rwa [show i + (100 * q + 1 - i) = 100 * q + 1 by omega] at this
  rw [e, List.countP_append]
  have a : (List.range i).countP (fun (v : Nat) => decide (needV d m sq (v : Int) ≤ hd)) = i := by
    rw [List.countP_eq_length.2]
    · simp
    · intro v hv; simp at hv; simpa using h1 v hv
  have b : ((List.range (100 * q + 1 - i)).map (i + ·)).countP (fun (v : Nat) => decide (needV d m sq (v : Int) ≤ hd)) = 0 := by
    rw [List.countP_eq_zero]
    intro v hv
    simp only [List.mem_map, List.mem_range] at hv
    obtain ⟨u, hu, rfl⟩ := hv
    have := h2 (i + u) (by omega) (by omega)
    simp only [decide_eq_true_eq]; omega
  rw [a, b, Nat.add_zero]
theorem seaFdiv2 (x : Int) : x.fdiv (2 ^ min (Int.toNat 1) 64) = x / 2 := by
  show x.fdiv 2 = x / 2
  exact Int.fdiv_eq_ediv_of_nonneg _ (by omega)
def fE (d m : Int) (q : Nat) (sq : Nat → Int) (h x : Int) : Int := if kval d m q sq = true ∧ isDp x = true ∧ -100000 ≤ h ∧ h ≤ 100000 then (if fC d m q sq (h + x) = 0 then 4 else 0) else 1
def fV (d m : Int) (q : Nat) (sq : Nat → Int) (h x : Int) : Int := if fE d m q sq h x = 0 then (fC d m q sq (h + x) : Int) - 1 else 0
theorem isDp_bd {v : Int} (h : isDp v = true) : 0 ≤ v ∧ v ≤ 100000 := of_decide_eq_true h

set_option maxRecDepth 100000 in
set_option maxHeartbeats 4000000 in
theorem fast_h (d m : Int) (q : Nat) (sq : Nat → Int) (h x : Int) (v : Int) (hk : kval d m q sq = true) (v0 : 0 ≤ v) (c : v ≤ 100 * q) (hx0 : 0 ≤ x) (hx1 : x ≤ 100000) (hh0 : -100000 ≤ h) (hh1 : h ≤ 100000) :
    CallsH Try.prog 78 [.one (.iv (.g (.int .i64 v))), .one (.ptr 0 0), .one (.ptr 1 0), .one (.ptr 2 0)] [some [.iv (.g (.int .i64 d)), .iv (.g (.int .i64 m)), .iv (.lst 1 q (sqF sq))], some [.iv (.g (.int .i64 h))], some [.iv (.g (.int .i64 x))]] (bA (decide (h + x < needV d m sq v))) [some [.iv (.g (.int .i64 d)), .iv (.g (.int .i64 m)), .iv (.lst 1 q (sqF sq))], some [.iv (.g (.int .i64 h))], some [.iv (.g (.int .i64 x))]] := by
  refine CallsH_of Try.func78 rfl (by rw [Try.ntmps78]; simp) fun g ls fr => ?_
  simp only [Try.ntmps78, argEnv, Nat.zero_add, Nat.reduceAdd]
  repeat' (first
    | (with_reducible refine AW_seq_k fun K hK => ?_)
    | ((first | (with_reducible refine And.intro ?_ ?_) | (with_reducible refine Need.mk ?_)); focus (first | exact True.intro | (with_reducible assumption) | omega | (refine ⟨?_, ?_⟩ <;> omega) | (intro _; first | exact True.intro | (with_reducible assumption) | omega) | (intros; (repeat' (first | exact True.intro | omega | (with_reducible assumption) | (with_reducible refine And.intro ?_ ?_))); done) | (simp (disch := omega) only [Bool.and_eq_true, Bool.or_eq_true, decide_eq_true_eq, bne_iff_ne, ne_eq] at *; first | done | omega | (intros; omega)) | (simp; done) | (simp; omega) | (simp +contextual; done) | (intro h; rw [h]; rfl) | (intros; simp_all; done)))
    | (with_reducible refine AW_skip ?_)
    | (with_reducible refine AW_exit ?_)
    | (with_reducible refine AW_ret ?_)
    | (with_reducible refine retK_n ?_)
    | (with_reducible refine retK_n' ?_)
    | (with_reducible refine retH_n rfl rfl rfl ?_)
    | (with_reducible refine retH_n' rfl rfl rfl ?_)
    | (with_reducible refine AW_condI ?_)
    | (with_reducible refine AW_block ?_)
    | ((with_reducible refine condN_t ?_ ?_) <;> (intro hc; (try simp only [Bool.and_eq_true, Bool.or_eq_true, Bool.not_eq_true', Bool.and_eq_false_iff, Bool.or_eq_false_iff, decide_eq_true_eq, decide_eq_false_iff_not, bne_iff_ne, beq_iff_eq, reduceCtorEq, bne_eq_false_iff_eq, beq_eq_false_iff_ne, Bool.not_eq_false', Int.not_le, Int.not_lt, Bool.not_not] at hc); (try (exfalso; first | contradiction | omega))))
    | (with_reducible refine AW_regionP 0 [0, 1, 2, 3] ?_)
    | ((with_reducible refine AW_prune (c := Code.region 1 _ true) [0, 1, 2, 3] ?_); (with_reducible refine AW_regionD ?_ ?_ ?_ ?_); (focus kernel_rfl); (focus kernel_rfl); (focus kernel_rfl))
    | ((with_reducible refine And.intro ?_ ?_); focus ((with_reducible show chkR _ _ _ = true); kernel_rfl))
    | (refine callDN_q (k := 73) fnok_73 ((sneed_p d m q sq v 0 0 0 0 (fun _ => 0) (fun _ => 0) hk v0 c).eqv (⟨⟨rfl, rfl, IV.eqv_refl _, rfl, rfl, rfl, rfl, ⟨rfl, rfl⟩, trivial⟩, trivial⟩) (PV.eqv_refl _)) ?_ ?_)
    | ((fail_if_success (with_reducible show AW _ _ _ _)); simp (maxSteps := 2000000) only [go_sem, reduceIte, reduceCtorEq, Nat.reduceAdd, Nat.reduceLT, Nat.reduceLeDiff, Nat.reduceEqDiff, Nat.reduceMul, Nat.reduceSub, Nat.reduceBEq, Try.f78, ty_45, zc_80, fo_80, pl_80_0, pl_80_1, fnok_73, ty_3, gt_iff_lt])
    | ((fail_if_success (with_reducible show AW _ _ _ _)); simp (disch := omega) only [seaWrap, seaDiv, seaMod])
    | ((with_reducible refine hK _ ?_); clear hK K))

set_option maxRecDepth 100000 in
set_option maxHeartbeats 4000000 in
theorem fast_1 (d m : Int) (q : Nat) (sq : Nat → Int) (h x : Int) (hh : (kval d m q sq && isDp x && decide (-100000 ≤ h) && decide (h ≤ 100000)) = false) : CallsP Try.prog 40 [shipP d m q sq, .one (.g (.int .i64 (h))), .one (.g (.int .i64 (x)))] (.tup [.one (.g (.int .i64 (0))), .one (.g (.int .i64 (1)))]) := by
  refine CallsP_of Try.func40 rfl (by rw [Try.ntmps40]; simp) ?_
  simp only [Try.ntmps40, List.map_cons, List.map_nil, PT.tv, argEnv, Nat.zero_add, Nat.reduceAdd]
  repeat' (first
    | (with_reducible refine AW_seq_k fun K hK => ?_)
    | ((first | (with_reducible refine And.intro ?_ ?_) | (with_reducible refine Need.mk ?_)); focus (first | exact True.intro | (with_reducible assumption) | omega | (refine ⟨?_, ?_⟩ <;> omega) | (intro _; first | exact True.intro | (with_reducible assumption) | omega) | (intros; (repeat' (first | exact True.intro | omega | (with_reducible assumption) | (with_reducible refine And.intro ?_ ?_))); done) | (simp (disch := omega) only [Bool.and_eq_true, Bool.or_eq_true, decide_eq_true_eq, bne_iff_ne, ne_eq] at *; first | done | omega | (intros; omega)) | (simp; done) | (simp; omega) | (simp +contextual; done) | (intro h; rw [h]; rfl) | (intros; simp_all; done)))
    | (with_reducible refine AW_skip ?_)
    | (with_reducible refine AW_exit ?_)
    | (with_reducible refine AW_ret ?_)
    | (with_reducible refine retK_n ?_)
    | (with_reducible refine retK_n' ?_)
    | (with_reducible refine retH_n rfl rfl rfl ?_)
    | (with_reducible refine retH_n' rfl rfl rfl ?_)
    | (with_reducible refine AW_condI ?_)
    | (with_reducible refine AW_block ?_)
    | ((with_reducible refine condN_t ?_ ?_) <;> (intro hc; (try simp only [Bool.and_eq_true, Bool.or_eq_true, Bool.not_eq_true', Bool.and_eq_false_iff, Bool.or_eq_false_iff, decide_eq_true_eq, decide_eq_false_iff_not, bne_iff_ne, beq_iff_eq, reduceCtorEq, bne_eq_false_iff_eq, beq_eq_false_iff_ne, Bool.not_eq_false', Int.not_le, Int.not_lt, Bool.not_not] at hc); (try (exfalso; first | contradiction | omega))))
    | (with_reducible refine AW_regionP 0 [0, 1, 2] ?_)
    | (with_reducible refine AW_regionP 1 [3, 4, 5] ?_)
    | (with_reducible refine AW_regionP 2 [] ?_)
    | (with_reducible refine AW_regionP 3 [3, 4, 5] ?_)
    | (with_reducible refine AW_regionP 4 [8] ?_)
    | (with_reducible refine AW_regionP 5 [] ?_)
    | (with_reducible refine AW_regionP 6 [8] ?_)
    | (refine callN_q (k := 32) fnok_32 (kvalid_p _ _ _ _) ?_ ?_)
    | (refine callGN_q (k := 75) fnok_75 (fun hg => isDepth_p _) ?_ ?_)
    | ((fail_if_success (with_reducible show AW _ _ _ _)); simp (maxSteps := 2000000) only [go_sem, reduceIte, reduceCtorEq, Nat.reduceAdd, Nat.reduceLT, Nat.reduceLeDiff, Nat.reduceEqDiff, Nat.reduceMul, Nat.reduceSub, Nat.reduceBEq, Try.f40, ty_45, fnok_32, ty_3, fnok_75, of_45_2, ty_43, le_43, fnok_77])
    | ((fail_if_success (with_reducible show AW _ _ _ _)); simp (disch := omega) only [seaWrap, seaDiv, seaMod])
    | ((with_reducible refine hK _ ?_); clear hK K))
  all_goals (simp_all; try omega)

theorem fst_lo {d m : Int} {q : Nat} {sq : Nat → Int} (hk : kval d m q sq = true) {hd : Int} {k : Nat} (hq : k ≤ 100 * q) (h : needV d m sq (k : Int) ≤ hd) : ∀ v : Nat, v < k + 1 → needV d m sq (v : Int) ≤ hd := fun v hv => by
  have := need_mono hk (v := v) (w := k) (by omega) (by omega) (by omega)
  omega
theorem fst_hi {d m : Int} {q : Nat} {sq : Nat → Int} (hk : kval d m q sq = true) {hd : Int} {k : Nat} (h : hd < needV d m sq (k : Int)) : ∀ v : Nat, k ≤ v → v ≤ 100 * q → hd < needV d m sq (v : Int) := fun v hv hq => by
  have := need_mono hk (v := k) (w := v) (by omega) (by omega) (by omega)
  omega
theorem mid_cast (i j : Nat) : ((i : Int) + j) / 2 = ((i + j) / 2 : Nat) := by omega

set_option maxRecDepth 100000 in
set_option maxHeartbeats 4000000 in
theorem fast_0 (d m : Int) (q : Nat) (sq : Nat → Int) (h x : Int) (hk : kval d m q sq = true) (hx : isDp x = true) (hx0 : 0 ≤ x) (hx1 : x ≤ 100000) (hh0 : -100000 ≤ h) (hh1 : h ≤ 100000) (q1 : q ≤ 20) : CallsP Try.prog 40 [shipP d m q sq, .one (.g (.int .i64 (h))), .one (.g (.int .i64 (x)))] (.tup [.one (.g (.int .i64 (if fC d m q sq (h + x) = 0 then 0 else (fC d m q sq (h + x) : Int) - 1))), .one (.g (.int .i64 (if fC d m q sq (h + x) = 0 then 4 else 0)))]) := by
  refine CallsP_of Try.func40 rfl (by rw [Try.ntmps40]; simp) ?_
  simp only [Try.ntmps40, List.map_cons, List.map_nil, PT.tv, argEnv, Nat.zero_add, Nat.reduceAdd]
  repeat' (first
    | (refine callK_shr rfl rfl (by omega) ?_)
    | (with_reducible refine AW_seq_k fun K hK => ?_)
    | ((first | (with_reducible refine And.intro ?_ ?_) | (with_reducible refine Need.mk ?_)); focus (first | exact True.intro | (with_reducible assumption) | omega | (refine ⟨?_, ?_⟩ <;> omega) | (intro _; first | exact True.intro | (with_reducible assumption) | omega) | (intros; (repeat' (first | exact True.intro | omega | (with_reducible assumption) | (with_reducible refine And.intro ?_ ?_))); done) | (simp (disch := omega) only [Bool.and_eq_true, Bool.or_eq_true, decide_eq_true_eq, bne_iff_ne, ne_eq] at *; first | done | omega | (intros; omega)) | (simp; done) | (simp; omega) | (simp +contextual; done) | (intro h; rw [h]; rfl) | (intros; simp_all; done)))
    | (with_reducible refine AW_skip ?_)
    | (with_reducible refine AW_exit ?_)
    | (with_reducible refine AW_ret ?_)
    | (with_reducible refine retK_n ?_)
    | (with_reducible refine retK_n' ?_)
    | (with_reducible refine retH_n rfl rfl rfl ?_)
    | (with_reducible refine retH_n' rfl rfl rfl ?_)
    | (with_reducible refine AW_condI ?_)
    | (with_reducible refine AW_block ?_)
    | ((with_reducible refine condN_t ?_ ?_) <;> (intro hc; (try simp only [Bool.and_eq_true, Bool.or_eq_true, Bool.not_eq_true', Bool.and_eq_false_iff, Bool.or_eq_false_iff, decide_eq_true_eq, decide_eq_false_iff_not, bne_iff_ne, beq_iff_eq, reduceCtorEq, bne_eq_false_iff_eq, beq_eq_false_iff_ne, Bool.not_eq_false', Int.not_le, Int.not_lt, Bool.not_not] at hc); (try (exfalso; first | contradiction | omega))))
    | (with_reducible refine AW_regionP 0 [0, 1, 2] ?_)
    | (with_reducible refine AW_regionP 1 [0, 1, 3, 4, 5] ?_)
    | (with_reducible refine AW_regionP 2 [1, 5, 6] ?_)
    | (with_reducible refine AW_regionP 3 [1, 3, 4, 5, 6] ?_)
    | (with_reducible refine AW_regionP 4 [1, 5, 6, 7, 8] ?_)
    | (with_reducible refine AW_regionP 5 [1, 6, 7] ?_)
    | (with_reducible refine AW_regionP 6 [1, 5, 7, 8] ?_)
    | (with_reducible refine AW_regionP 7 [5] ?_)
    | (refine callN_q (k := 32) fnok_32 (kvalid_p _ _ _ _) ?_ ?_)
    | (refine callN_q (k := 75) fnok_75 (isDepth_p _) ?_ ?_)
    | (refine callGN_q (k := 75) fnok_75 (fun hg => isDepth_p _) ?_ ?_)
    | (refine callN_hq (k := 78) fnok_78 (fast_h d m q sq h x _ hk (by omega) (by omega) hx0 hx1 hh0 hh1) ?_ ?_)
    | ((with_reducible refine AW_loopQ (c := (Code.seq (Code.seq (Code.region 2 _ _) _) _)) (ι := (Nat × Nat)) [1] (fun ⟨i, j⟩ => [(5, iA .i64 (i : Int)), (6, iA .i64 (j : Int))]) (fun ⟨i, j⟩ => []) (fun ⟨i, j⟩ => (i ≤ j ∧ j ≤ 100 * q + 1) ∧ (∀ v : Nat, v < i → needV d m sq (v : Int) ≤ h + x) ∧ (∀ v : Nat, j ≤ v → v ≤ 100 * q → h + x < needV d m sq (v : Int))) (fun ⟨i, j⟩ => j - i) (0, 100 * q + 1) ?lg2 ?l12 ?l22 ?li2 ?lr2); (case' lg2 => rintro ⟨i, j⟩ _); (case' li2 => try (exact ⟨⟨Nat.zero_le _, Nat.le_refl _⟩, fun v hv => absurd hv (Nat.not_lt_zero _), fun v hv hq => by omega⟩)); (case' lr2 => rintro ⟨i, j⟩ ⟨⟨h1, h2⟩, h3, h4⟩ KR hR2; skip; simp only [keepE, hupd, hset, lk, if_true, if_false, Nat.reduceEqDiff, reduceIte, List.cons_append, List.nil_append, hk, hx, IntKind.bits, seaFdiv2, mid_cast]))
    | ((with_reducible refine hR2 _ ((i + j) / 2 + 1, j) ?_); (try clear hR2 KR); (with_reducible refine Told.mk ?_); simp only [go_sem, reduceIte, reduceCtorEq, Nat.reduceAdd, Nat.reduceLT, Nat.reduceLeDiff, Nat.reduceEqDiff, Nat.reduceMul, Nat.reduceSub, Nat.reduceBEq, hk, hx, IntKind.bits, seaFdiv2, mid_cast]; (try simp (disch := omega) only [seaWrap, Int.natCast_add, Int.cast_ofNat_Int, and_true, true_and, and_self]); (repeat' (first | exact True.intro | omega | (with_reducible assumption) | (with_reducible refine And.intro ?_ ?_) | (exact fst_lo hk (by omega) (by assumption)) | (exact fst_hi hk (by assumption)))); done)
    | ((with_reducible refine hR2 _ (i, (i + j) / 2) ?_); (try clear hR2 KR); (with_reducible refine Told.mk ?_); simp only [go_sem, reduceIte, reduceCtorEq, Nat.reduceAdd, Nat.reduceLT, Nat.reduceLeDiff, Nat.reduceEqDiff, Nat.reduceMul, Nat.reduceSub, Nat.reduceBEq, hk, hx, IntKind.bits, seaFdiv2, mid_cast]; (first | (try simp (disch := omega) only [seaWrap, Int.natCast_add, Int.cast_ofNat_Int, and_true, true_and, and_self]); (repeat' (first | exact True.intro | omega | (with_reducible assumption) | (with_reducible refine And.intro ?_ ?_) | (exact fst_lo hk (by omega) (by assumption)) | (exact fst_hi hk (by assumption)))); done | (refine Stuck.out ?_)))
    | ((with_reducible refine Told.mk ?_); simp only [go_sem, reduceIte, reduceCtorEq, Nat.reduceAdd, Nat.reduceLT, Nat.reduceLeDiff, Nat.reduceEqDiff, Nat.reduceMul, Nat.reduceSub, Nat.reduceBEq, hk, hx, IntKind.bits, seaFdiv2, mid_cast] <;> (first | exact True.intro | ((try simp (disch := omega) only [seaWrap, Int.natCast_add, Int.cast_ofNat_Int, and_true, true_and, and_self]); (repeat' (first | exact True.intro | omega | (with_reducible assumption) | (with_reducible refine And.intro ?_ ?_) | (exact fst_lo hk (by omega) (by assumption)) | (exact fst_hi hk (by assumption)))); done) | (refine Stuck.out ?_)))
    | ((fail_if_success (with_reducible show AW _ _ _ _)); simp (maxSteps := 2000000) only [go_sem, reduceIte, reduceCtorEq, Nat.reduceAdd, Nat.reduceLT, Nat.reduceLeDiff, Nat.reduceEqDiff, Nat.reduceMul, Nat.reduceSub, Nat.reduceBEq, Try.f40, Try.f77, ty_45, fnok_32, ty_3, fnok_75, of_45_2, ty_43, le_43, fnok_77, in_92, ty_92, in_3, hk, hx, IntKind.bits, seaFdiv2, mid_cast])
    | ((fail_if_success (with_reducible show AW _ _ _ _)); simp (disch := omega) only [seaWrap, seaWrapU, seaDiv, seaMod, mid_cast])
    | ((refine callN_i (k := 77) Try.func77 rfl fnok_77 (by rw [Try.ntmps77]; simp) ?_ ?_ (fun K hK => ?_)); (focus (first | exact True.intro | (with_reducible assumption) | omega | (refine ⟨?_, ?_⟩ <;> omega) | (intro _; first | exact True.intro | (with_reducible assumption) | omega) | (intros; (repeat' (first | exact True.intro | omega | (with_reducible assumption) | (with_reducible refine And.intro ?_ ?_))); done) | (simp (disch := omega) only [Bool.and_eq_true, Bool.or_eq_true, decide_eq_true_eq, bne_iff_ne, ne_eq] at *; first | done | omega | (intros; omega)) | (simp; done) | (simp; omega) | (simp +contextual; done) | (intro h; rw [h]; rfl) | (intros; simp_all; done))); (focus (simp [lsF])); simp only [Try.ntmps77, List.map_cons, List.map_nil, List.nil_append, List.cons_append, List.append_nil, LV.tv, argEnv, Nat.zero_add, Nat.reduceAdd])
    | ((with_reducible refine hK _ ?_); clear hK K)
    | (with_reducible apply_assumption -exfalso))
  all_goals
    have e := fC_eq (d := d) (m := m) (q := q) (sq := sq) (hd := h + x) (i := i) (by omega) h3 (fun v hv hq => h4 v (by omega) hq)
    rw [e]
    split <;> omega

theorem fast_p (d m : Int) (q : Nat) (sq : Nat → Int) (h x : Int) : CallsP Try.prog 40 [shipP d m q sq, .one (.g (.int .i64 (h))), .one (.g (.int .i64 (x)))] (.tup [.one (.g (.int .i64 (fV d m q sq h x))), .one (.g (.int .i64 (fE d m q sq h x)))]) := by
  unfold fV fE
  cases hh : (kval d m q sq && isDp x && decide (-100000 ≤ h) && decide (h ≤ 100000)) with
  | false =>
    have e : ¬ (kval d m q sq = true ∧ isDp x = true ∧ -100000 ≤ h ∧ h ≤ 100000) := fun ⟨a, b, c, e⟩ => by rw [a, b] at hh; simp at hh; omega
    simp only [e, if_false, Int.reduceEq]
    exact fast_1 d m q sq h x hh
  | true =>
    simp only [Bool.and_eq_true, decide_eq_true_eq] at hh
    obtain ⟨⟨⟨a, b⟩, c⟩, e⟩ := hh
    have hb := isDp_bd b
    have r := fast_0 d m q sq h x a b hb.1 hb.2 c e (kval_kv a).q1
    simp only [a, b, c, e, and_self, if_true]
    by_cases z : fC d m q sq (h + x) = 0
    · simp only [z, if_true, Int.reduceEq, if_false] at r ⊢; exact r
    · simp only [z, if_true, if_false] at r ⊢; exact r

end Go.Proofs.Ythfnmooeijneoaa
