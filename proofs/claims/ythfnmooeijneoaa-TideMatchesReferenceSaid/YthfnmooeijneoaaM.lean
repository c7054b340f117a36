/- M: walks on abstract states. -/
import Derived.Test.YthfnmooeijneoaaK
set_option linter.unusedVariables false
set_option linter.unusedSimpArgs false
namespace Go.Proofs.Ythfnmooeijneoaa
open Go.RowKit Go.Sea
attribute [local go_sem] callK_N gf gk gdrop lkL setL lsF ltAll rdyL bodyF roundQ roundS loopQ loopS jumpOf inLs yV yA bAV zipPut purgeG List.tail_cons Option.isNone_none Option.isNone_some callGK_f callDK_f callDGK_f retN retHN blockA arun_nil arun_plain arun_guard plainF guardF guardB arunD_nil arunD_plain arunD_guard plainDF guardDF guardDB AS.ent Eff.noApp Eff.tgt ftF AV.refs TV.refs CV.refs LV.refs Op.operands Call.operands List.append_toArray List.push_toArray List.flatMap_cons List.flatMap_nil List.toList_toArray Option.toArray List.reverse_cons List.reverse_nil opF AS.ev constA lk AS.get AV.tv AV.nd AS.eff AS.put argEnv PT.tv PV.av AV.mbOf hset hget TV.cells dstOk thenA gB isB toB TV.bool? TV.int? intF loadF storeF fieldF indexF lenF sliceF optI appF minmaxF ipCells fillF repC partsF lvsF TV.lv LV.tv purgeE purgeC purgeH AV.purge CV.purge AV.has TV.has CV.has LV.has calleeF argsF tvsF toPT toIV toIVs toPTs toPV civ isIv iA bA List.map_cons List.map_nil List.length_nil List.length_cons List.getElem?_cons_zero List.getElem?_cons_succ List.getElem?_nil Option.getD_some Option.getD_none Option.bind_some Option.bind_none List.take_succ_cons List.take_zero List.drop_succ_cons List.drop_zero List.take_nil List.drop_nil List.cons_append List.nil_append List.append_nil List.getD_cons_zero List.getD_cons_succ Option.map_some Option.map_none Option.isSome_some Option.isSome_none List.size_toArray List.any_cons List.any_nil List.mem_cons if_true if_false ite_true ite_false cond_true cond_false Nat.zero_add Nat.add_zero Nat.sub_zero Nat.le_refl Nat.zero_mul Nat.mul_zero Nat.one_mul Nat.mul_one Int.toNat_zero Int.toNat_natCast Bool.or_false Bool.false_or Bool.or_true Bool.true_or Bool.and_true Bool.true_and Bool.and_false Bool.false_and beq_self_eq_true beq_true beq_false Bool.not_true Bool.not_false and_true true_and and_false false_and and_self imp_self Bool.cond_false_right Bool.cond_true_left implies_true forall_const true_implies false_implies Option.some.injEq Prod.mk.injEq ne_eq not_false_eq_true not_true_eq_false eq_self Nat.lt_irrefl Nat.not_lt_zero boF seaMin seaMax seaNat1 seaNat2 Value.bool.injEq Value.int.injEq srcF lstC TV.dp IV.eqv PT.eqv PV.eqv All2 keepE hupd callZ_N AS.frz AS.frzW frzs frzsOk frzOk frzE frzA frzT frzC frzG frzH hdel cmpS eqF eqC gvs eqVs eqV decide_true resF tupA inlQ okL okGL okG nextL wkH wkC wkV nilA nilC AV.ok TV.ok CV.ok LV.ok okB forall_eq_or_imp forall_eq List.not_mem_nil List.mem_singleton true_or or_true or_false false_or exists_prop AV.t.injEq TV.one.injEq CV.iv.injEq IV.g.injEq TV.agg.injEq List.cons.injEq
theorem bo_31 : boD Try.prog 31 = false := by kernel_rfl
theorem eq_31 : eqD Try.prog 31 = some (true, [.int .i64, .int .i64]) := by kernel_rfl
theorem fnok_22 : fnOk Try.prog 22 = true := by kernel_rfl
theorem fnok_34 : fnOk Try.prog 34 = true := by kernel_rfl
theorem fnok_36 : fnOk Try.prog 36 = true := by kernel_rfl
theorem fnok_38 : fnOk Try.prog 38 = true := by kernel_rfl
theorem fnok_40 : fnOk Try.prog 40 = true := by kernel_rfl
theorem fnok_42 : fnOk Try.prog 42 = true := by kernel_rfl
theorem fnok_44 : fnOk Try.prog 44 = true := by kernel_rfl
theorem fnok_68 : fnOk Try.prog 68 = true := by kernel_rfl
theorem fnok_69 : fnOk Try.prog 69 = true := by kernel_rfl

theorem u31 : Try.prog.underlying 31 = some (.struct (Try.prog.fieldsOf 31)) := by kernel_rfl
theorem s31 : Try.prog.stoodInHeld 31 = false := by kernel_rfl
theorem e31 : Try.prog.eqGuardType Try.prog.depth 31 = false := by kernel_rfl
theorem f31 : (Try.prog.fieldsOf 31).toList.map (fun f => (f.name != "_", f.type, f.offset)) = [(true, 3, 0), (true, 3, 1)] := by kernel_rfl
theorem run_neq31 (a b c e : Int) (w : World) : (binOp .neq 31 (.agg #[.int .i64 a, .int .i64 b]) (.agg #[.int .i64 c, .int .i64 e])).run Try.prog w = .ok (.bool (!(a == c && b == e))) w := by
  rw [run_neq_struct, run_equalIn_struct w 9999 31 _ _ u31 s31]
  have h := f31
  generalize (Try.prog.fieldsOf 31).toList = fs at h
  obtain ⟨f, g, rfl⟩ : ∃ f g, fs = [f, g] := by
    rcases fs with _ | ⟨f, _ | ⟨g, _ | ⟨x, l⟩⟩⟩ <;> simp at h
    exact ⟨f, g, rfl⟩
  · simp at h
    obtain ⟨⟨f1, f2, f3⟩, g1, g2, g3⟩ := h
    have i3 : Try.prog.underlying 3 = some (.int .i64) := Try.underlying3
    have hp : ∀ (x y : Int) (k : Nat) (v : Value), (#[Value.int .i64 x, Value.int .i64 y])[k]? = some v → (part 3 #[Value.int .i64 x, Value.int .i64 y] k).run Try.prog w = .ok v w := fun x y k v hv => by
      simp [part, isAgg, run_underlying i3, hv]
    have p0 : ∀ x y, (part 3 #[Value.int .i64 x, Value.int .i64 y] 0).run Try.prog w = .ok (.int .i64 x) w := fun x y => hp x y 0 _ rfl
    have p1 : ∀ x y, (part 3 #[Value.int .i64 x, Value.int .i64 y] 1).run Try.prog w = .ok (.int .i64 y) w := fun x y => hp x y 1 _ rfl
    have q : ∀ x y, (Op.equalIn 9999 3 (.int .i64 x) (.int .i64 y)).run Try.prog w = .ok (x == y) w := fun x y => run_equalIn_int w 9998 3 .i64 .i64 x y i3
    simp only [Op.eqFields, f1, g1, f2, g2, f3, g3, ne_eq, not_false_eq_true, if_true, Sem.run_bind, p0, p1, q, Result.andThen_ok]
    cases h1 : (a == c) <;> cases h2 : (b == e) <;> simp [Sem.run_pure, Result.andThen, p0, p1, q, h1, h2]
section
variable {gs : List (Option Nat)} {n0 i : Nat} {d : Option Tmp} {t' : TypeId} {x y : Operand} {ty : TypeId} {pos : String} {aft : Array Edge} {os : List Oper} {s : AS} {lg : Lg} {K : Lg → AS → Prop} {a b c e : Int}
theorem callDK_neq31 (hx : s.ev x = .t (.agg [.iv (.g (.int .i64 a)), .iv (.g (.int .i64 b))])) (hy : s.ev y = .t (.agg [.iv (.g (.int .i64 c)), .iv (.g (.int .i64 e))])) (h : arunD Try.prog gs n0 (i + 1) os (s.put d (bA (!(a == c && b == e)))) ((none, ftF s ⟨d, .binOp .neq 31 x y t', ty, pos, aft, none⟩) :: lg) K) :
    callDK Try.prog gs n0 i ⟨d, .binOp .neq 31 x y t', ty, pos, aft, none⟩ os s lg K := by
  unfold callDK callD
  refine ⟨rfl, ?_, .bool (!(a == c && b == e)), fun w => ?_, h⟩
  · simp [Op.operands, gv, hx, hy]
  · simp only [execOp, gρ, hx, hy]
    simp [gv, run_eqGuard_agg, e31, run_neq31]
end

theorem sameL_f {n n' : Nat} {lo hi lo' hi' : Nat → Int} (h : (n : Int) ≠ n') : sameL n n' lo hi lo' hi' = false := decide_eq_false fun h' => h (by omega)
theorem sameL_k {n n' k : Nat} {lo hi lo' hi' : Nat → Int} (hk : (k : Int) < n) (h : ¬ lo k = lo' k ∨ ¬ hi k = hi' k) : sameL n n' lo hi lo' hi' = false := decide_eq_false fun h' => by
  have := h'.2 k (by omega)
  rcases h with h | h
  · exact h this.1
  · exact h this.2
theorem sameL_t {n n' k : Nat} {lo hi lo' hi' : Nat → Int} (hn : (n : Int) = n') (hk : (n : Int) ≤ k) (h : ∀ i, i < k → lo i = lo' i ∧ hi i = hi' i) : sameL n n' lo hi lo' hi' = true := decide_eq_true ⟨by omega, fun i hi => h i (by omega)⟩

set_option maxRecDepth 100000 in
set_option maxHeartbeats 4000000 in
theorem spans_p (n n' : Nat) (lo hi lo' hi' : Nat → Int) (hn : n ≤ 1000000) : CallsP Try.prog 22 [.one (.lst 2 n (spanF lo hi)), .one (.lst 2 n' (spanF lo' hi'))] (.t (.one (.g (.bool (sameL n n' lo hi lo' hi'))))) := by
  refine CallsP_of Try.func22 rfl (by rw [Try.ntmps22]; simp) ?_
  simp only [Try.ntmps22, List.map_cons, List.map_nil, PT.tv, argEnv, Nat.zero_add, Nat.reduceAdd]
  repeat' (first
    | (refine callDK_neq31 rfl rfl ?_)
    | (with_reducible refine AW_seq_k fun K hK => ?_)
    | ((first | (with_reducible refine And.intro ?_ ?_) | (with_reducible refine Need.mk ?_)); focus (first | exact True.intro | (with_reducible assumption) | omega | (refine ⟨?_, ?_⟩ <;> omega) | (intro _; first | exact True.intro | (with_reducible assumption) | omega) | (intros; (repeat' (first | exact True.intro | omega | (with_reducible assumption) | (with_reducible refine And.intro ?_ ?_))); done) | (simp (disch := omega) only [Bool.and_eq_true, Bool.or_eq_true, decide_eq_true_eq, bne_iff_ne, ne_eq] at *; first | done | omega | (intros; omega)) | (simp; done) | (simp; omega) | (simp +contextual; done) | (intro h; rw [h]; rfl) | (intros; simp_all; done)))
    | (with_reducible refine AW_skip ?_)
    | (with_reducible refine AW_exit ?_)
    | (with_reducible refine AW_ret ?_)
    | (with_reducible refine retK_n ?_)
    | (with_reducible refine retK_n' ?_)
    | (with_reducible refine retH_n rfl rfl rfl ?_)
    | (with_reducible refine retH_n' rfl rfl rfl ?_)
    | (with_reducible refine AW_condI ?_)
    | (with_reducible refine AW_block ?_)
    | ((with_reducible refine condN_t ?_ ?_) <;> (intro hc; (try simp only [Bool.and_eq_true, Bool.or_eq_true, Bool.not_eq_true', Bool.and_eq_false_iff, Bool.or_eq_false_iff, decide_eq_true_eq, decide_eq_false_iff_not, bne_iff_ne, beq_iff_eq, reduceCtorEq, bne_eq_false_iff_eq, beq_eq_false_iff_ne, Bool.not_eq_false', Int.not_le, Int.not_lt, Bool.not_not] at hc); (try simp only [Bool.not_eq_true', Bool.not_eq_false', Bool.and_eq_true, Bool.and_eq_false_imp, beq_iff_eq, beq_eq_false_iff_ne, ne_eq] at hc); (try (exfalso; first | contradiction | omega))))
    | (with_reducible refine AW_regionP 0 [0, 1] ?_)
    | (with_reducible refine AW_regionP 1 [0, 1] ?_)
    | (with_reducible refine AW_regionP 2 [] ?_)
    | (with_reducible refine AW_regionP 3 [0, 1] ?_)
    | (with_reducible refine AW_regionP 4 [0, 1, 5] ?_)
    | (with_reducible refine AW_regionP 5 [0, 1, 5] ?_)
    | ((with_reducible refine AW_prune (c := Code.region 6 _ true) [0, 1, 5] ?_); (with_reducible refine AW_regionD ?_ ?_ ?_ ?_); (focus kernel_rfl); (focus kernel_rfl); (focus kernel_rfl))
    | (with_reducible refine AW_regionP 7 [] ?_)
    | (with_reducible refine AW_regionP 8 [] ?_)
    | ((with_reducible refine And.intro ?_ ?_); focus ((with_reducible show chkR _ _ _ = true); kernel_rfl))
    | ((with_reducible refine AW_loopQ (c := (Code.seq (Code.seq (Code.region 4 _ _) _) _)) (ι := Nat) [0, 1] (fun k => [(5, iA .i64 (k : Int))]) (fun k => []) (fun k => k ≤ n ∧ (∀ i, i < k → lo i = lo' i ∧ hi i = hi' i)) (fun k => n - k) 0 ?lg4 ?l14 ?l24 ?li4 ?lr4); (case' lg4 => rintro k _); (case' li4 => try (exact ⟨Nat.zero_le _, fun i hi => absurd hi (Nat.not_lt_zero _)⟩)); (case' lr4 => rintro k ⟨h1, h2⟩ KR hR4; skip; simp only [keepE, hupd, hset, lk, if_true, if_false, Nat.reduceEqDiff, reduceIte, List.cons_append, List.nil_append, spanF0, spanF1]))
    | ((with_reducible refine hR4 _ (k + 1) ?_); (try clear hR4 KR))
    | ((with_reducible refine Told.mk ?_); simp only [go_sem, reduceIte, reduceCtorEq, Nat.reduceAdd, Nat.reduceLT, Nat.reduceLeDiff, Nat.reduceEqDiff, Nat.reduceMul, Nat.reduceSub, Nat.reduceBEq, spanF0, spanF1] <;> (first | exact True.intro | (((try simp (disch := omega) only [seaWrap, Int.natCast_add, Int.cast_ofNat_Int, and_true, true_and, and_self]); (repeat' (first | exact True.intro | omega | (with_reducible assumption) | (with_reducible refine And.intro ?_ ?_) | (exact all_succ (by assumption) (by assumption)))); done)) | (refine Stuck.out ?_)))
    | ((fail_if_success (with_reducible show AW _ _ _ _)); simp (maxSteps := 2000000) only [go_sem, reduceIte, reduceCtorEq, Nat.reduceAdd, Nat.reduceLT, Nat.reduceLeDiff, Nat.reduceEqDiff, Nat.reduceMul, Nat.reduceSub, Nat.reduceBEq, Try.f22, le_22, sl_22, ar_22, ty_31, bo_31, eq_31, spanF0, spanF1])
    | ((fail_if_success (with_reducible show AW _ _ _ _)); simp (disch := omega) only [seaWrap, seaDiv, seaMod])
    | ((with_reducible refine hK _ ?_); clear hK K)
    | (with_reducible apply_assumption -exfalso))
  all_goals (refine Eq.symm ?_; first | exact sameL_f (by assumption) | exact sameL_k (k := k) (by assumption) (by assumption) | exact sameL_t (k := k) (by assumption) (by assumption) (by assumption))

theorem x_s : sameL 1 1 (L1 [(110, 120)]) (L2 [(110, 120)]) (fun _ => 110) (fun _ => 120) = true := by decide +kernel
theorem x_k : kval 80 10 2 shipS = true ∧ kval 0 0 0 (fun _ => 0) = false := by decide +kernel

set_option maxRecDepth 100000 in
set_option maxHeartbeats 4000000 in
theorem head_p  : CallsP Try.prog 31 [] (.t (.one (.g (.bool (true))))) := by
  refine CallsP_of Try.func31 rfl (by rw [Try.ntmps31]; simp) ?_
  simp only [Try.ntmps31, List.map_cons, List.map_nil, PT.tv, argEnv, Nat.zero_add, Nat.reduceAdd]
  repeat' (first
    | (with_reducible refine AW_seq_k fun K hK => ?_)
    | ((first | (with_reducible refine And.intro ?_ ?_) | (with_reducible refine Need.mk ?_)); focus (first | exact True.intro | (with_reducible assumption) | omega | (refine ⟨?_, ?_⟩ <;> omega) | (intro _; first | exact True.intro | (with_reducible assumption) | omega) | (intros; (repeat' (first | exact True.intro | omega | (with_reducible assumption) | (with_reducible refine And.intro ?_ ?_))); done) | (simp (disch := omega) only [Bool.and_eq_true, Bool.or_eq_true, decide_eq_true_eq, bne_iff_ne, ne_eq] at *; first | done | omega | (intros; omega)) | (simp; done) | (simp; omega) | (simp +contextual; done) | (intro h; rw [h]; rfl) | (intros; simp_all; done)))
    | (with_reducible refine AW_skip ?_)
    | (with_reducible refine AW_exit ?_)
    | (with_reducible refine AW_ret ?_)
    | (with_reducible refine retK_n ?_)
    | (with_reducible refine retK_n' ?_)
    | (with_reducible refine retH_n rfl rfl rfl ?_)
    | (with_reducible refine retH_n' rfl rfl rfl ?_)
    | (with_reducible refine AW_condI ?_)
    | (with_reducible refine AW_block ?_)
    | ((with_reducible refine condN_t ?_ ?_) <;> (intro hc; (try simp only [Bool.and_eq_true, Bool.or_eq_true, Bool.not_eq_true', Bool.and_eq_false_iff, Bool.or_eq_false_iff, decide_eq_true_eq, decide_eq_false_iff_not, bne_iff_ne, beq_iff_eq, reduceCtorEq, bne_eq_false_iff_eq, beq_eq_false_iff_ne, Bool.not_eq_false', Int.not_le, Int.not_lt, Bool.not_not] at hc); (try (exfalso; first | contradiction | omega))))
    | (with_reducible refine AW_regionP 0 [] ?_)
    | (with_reducible refine AW_regionP 1 [] ?_)
    | (with_reducible refine AW_regionP 2 [1, 2] ?_)
    | (with_reducible refine AW_regionP 3 [1, 2, 3, 4] ?_)
    | (with_reducible refine AW_regionP 4 [1, 2, 3, 4, 5, 6] ?_)
    | (with_reducible refine AW_regionP 5 [1, 2, 3, 4, 5, 6, 8] ?_)
    | (with_reducible refine AW_regionP 6 [9] ?_)
    | (with_reducible refine AW_regionP 7 [2, 9, 10] ?_)
    | (with_reducible refine AW_regionP 8 [2, 4, 9, 10, 11] ?_)
    | (with_reducible refine AW_regionP 9 [2, 4, 6, 9, 10, 11, 12] ?_)
    | (with_reducible refine AW_regionP 10 [9] ?_)
    | (with_reducible refine AW_regionP 11 [1, 2, 9] ?_)
    | (with_reducible refine AW_regionP 12 [1, 2, 3, 4, 9] ?_)
    | (with_reducible refine AW_regionP 13 [1, 2, 3, 4, 6, 9] ?_)
    | (with_reducible refine AW_regionP 14 [1, 2, 3, 4, 6, 8, 9, 13] ?_)
    | (with_reducible refine AW_regionP 15 [1, 2, 3, 4, 6, 8, 9, 13, 14, 15] ?_)
    | (with_reducible refine AW_regionP 16 [9, 13] ?_)
    | (refine callN_q (k := 68) fnok_68 (ship_p) ?_ ?_)
    | (refine callGN_q (k := 68) fnok_68 (fun hg => ship_p) ?_ ?_)
    | (refine callN_q (k := 69) fnok_69 (table_p) ?_ ?_)
    | (refine callN_q (k := 34) fnok_34 (c_n1) ?_ ?_)
    | (refine callN_q (k := 34) fnok_34 (c_n2) ?_ ?_)
    | (refine callN_q (k := 34) fnok_34 (c_n3) ?_ ?_)
    | (refine callN_q (k := 34) fnok_34 (c_n4) ?_ ?_)
    | (refine callN_q (k := 36) fnok_36 (c_d1) ?_ ?_)
    | (refine callN_q (k := 36) fnok_36 (c_d2) ?_ ?_)
    | (refine callN_q (k := 38) fnok_38 (c_l) ?_ ?_)
    | (refine callN_q (k := 40) fnok_40 (c_f1) ?_ ?_)
    | (refine callN_q (k := 40) fnok_40 (c_f2) ?_ ?_)
    | (refine callN_q (k := 40) fnok_40 (c_f3) ?_ ?_)
    | (refine callN_q (k := 42) fnok_42 (c_w) ?_ ?_)
    | (refine callN_q (k := 44) fnok_44 (c_v) ?_ ?_)
    | (refine callGN_q (k := 32) fnok_32 (fun hg => kvalid_p 80 10 2 shipS) ?_ ?_)
    | (refine callGN_q (k := 32) fnok_32 (fun hg => (kvalid_p 0 0 0 (fun _ => 0)).eqv (⟨⟨rfl, rfl, ⟨rfl, rfl⟩, trivial⟩, trivial⟩) (PV.eqv_refl _)) ?_ ?_)
    | (refine callGN_q (k := 22) fnok_22 (fun hg => (spans_p _ _ _ _ (fun _ => 110) (fun _ => 120) (by simp)).eqv (⟨IV.eqv_refl _, ⟨rfl, rfl, fun i o hi ho => by rcases i with _ | i <;> (rcases o with _ | _ | o) <;> first | omega | exact IV.eqv_refl _⟩, trivial⟩) (PV.eqv_refl _)) ?_ ?_)
    | ((fail_if_success (with_reducible show AW _ _ _ _)); simp (maxSteps := 2000000) only [go_sem, reduceIte, reduceCtorEq, Nat.reduceAdd, Nat.reduceLT, Nat.reduceLeDiff, Nat.reduceEqDiff, Nat.reduceMul, Nat.reduceSub, Nat.reduceBEq, Try.f31, fnok_68, fnok_34, fnok_69, fnok_36, fnok_38, fnok_40, fnok_42, fnok_44, zc_31, fo_31, pl_31_0, pl_31_1, sl_22, fnok_22, fnok_32, zc_45, fo_45, x_s, x_k.1, x_k.2, Int.reduceBEq, Int.reduceBNe])
    | ((with_reducible refine hK _ ?_); clear hK K))

end Go.Proofs.Ythfnmooeijneoaa
