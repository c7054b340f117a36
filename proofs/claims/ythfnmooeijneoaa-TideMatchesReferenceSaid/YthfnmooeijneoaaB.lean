/- B: walks on abstract states. -/
import Derived.Test.YthfnmooeijneoaaA
import Derived.Test.YthfnmooeijneoaaSeaV
set_option linter.unusedVariables false
set_option linter.unusedSimpArgs false
namespace Go.Proofs.Ythfnmooeijneoaa
open Go.RowKit Go.Sea
attribute [local go_sem] callK_N gf gk gdrop lkL setL lsF ltAll rdyL bodyF roundQ roundS loopQ loopS jumpOf inLs yV yA bAV zipPut purgeG List.tail_cons Option.isNone_none Option.isNone_some callGK_f callDK_f callDGK_f retN retHN blockA arun_nil arun_plain arun_guard plainF guardF guardB arunD_nil arunD_plain arunD_guard plainDF guardDF guardDB AS.ent Eff.noApp Eff.tgt ftF AV.refs TV.refs CV.refs LV.refs Op.operands Call.operands List.append_toArray List.push_toArray List.flatMap_cons List.flatMap_nil List.toList_toArray Option.toArray List.reverse_cons List.reverse_nil opF AS.ev constA lk AS.get AV.tv AV.nd AS.eff AS.put argEnv PT.tv PV.av AV.mbOf hset hget TV.cells dstOk thenA gB isB toB TV.bool? TV.int? intF loadF storeF fieldF indexF lenF sliceF optI appF minmaxF ipCells fillF repC partsF lvsF TV.lv LV.tv purgeE purgeC purgeH AV.purge CV.purge AV.has TV.has CV.has LV.has calleeF argsF tvsF toPT toIV toIVs toPTs toPV civ isIv iA bA List.map_cons List.map_nil List.length_nil List.length_cons List.getElem?_cons_zero List.getElem?_cons_succ List.getElem?_nil Option.getD_some Option.getD_none Option.bind_some Option.bind_none List.take_succ_cons List.take_zero List.drop_succ_cons List.drop_zero List.take_nil List.drop_nil List.cons_append List.nil_append List.append_nil List.getD_cons_zero List.getD_cons_succ Option.map_some Option.map_none Option.isSome_some Option.isSome_none List.size_toArray List.any_cons List.any_nil List.mem_cons if_true if_false ite_true ite_false cond_true cond_false Nat.zero_add Nat.add_zero Nat.sub_zero Nat.le_refl Nat.zero_mul Nat.mul_zero Nat.one_mul Nat.mul_one Int.toNat_zero Int.toNat_natCast Bool.or_false Bool.false_or Bool.or_true Bool.true_or Bool.and_true Bool.true_and Bool.and_false Bool.false_and beq_self_eq_true beq_true beq_false Bool.not_true Bool.not_false and_true true_and and_false false_and and_self imp_self Bool.cond_false_right Bool.cond_true_left implies_true forall_const true_implies false_implies Option.some.injEq Prod.mk.injEq ne_eq not_false_eq_true not_true_eq_false eq_self Nat.lt_irrefl Nat.not_lt_zero boF seaMin seaMax seaNat1 seaNat2 Value.bool.injEq Value.int.injEq srcF lstC TV.dp IV.eqv PT.eqv PV.eqv All2 keepE hupd callZ_N AS.frz AS.frzW frzs frzsOk frzOk frzE frzA frzT frzC frzG frzH hdel cmpS eqF eqC gvs eqVs eqV decide_true resF tupA inlQ okL okGL okG nextL wkH wkC wkV nilA nilC AV.ok TV.ok CV.ok LV.ok okB forall_eq_or_imp forall_eq List.not_mem_nil List.mem_singleton true_or or_true or_false false_or exists_prop AV.t.injEq TV.one.injEq CV.iv.injEq IV.g.injEq TV.agg.injEq List.cons.injEq
theorem fnok_18 : fnOk Try.prog 18 = true := by kernel_rfl
theorem fnok_48 : fnOk Try.prog 48 = true := by kernel_rfl
theorem fnok_54 : fnOk Try.prog 54 = true := by kernel_rfl
theorem of_68_0 : offOf Try.prog 68 0 = some 0 := by kernel_rfl
theorem of_68_1 : offOf Try.prog 68 1 = some 2 := by kernel_rfl
theorem ty_4 : tyD Try.prog 4 = some (false, 1) := by kernel_rfl
theorem ty_68 : tyD Try.prog 68 = some (true, 4) := by kernel_rfl
theorem zc_4 : zeroC Try.prog 4 = some [.iv (.g (.bool false))] := by kernel_rfl
theorem zc_68 : zeroC Try.prog 68 = some [.iv (.g (.int .i64 0)), .iv (.g (.int .i64 0)), .iv (.g (.int .i64 0)), .iv (.g (.int .i64 0))] := by kernel_rfl

theorem fo_okk {s st : Int} {n : Nat} {lo hi : Nat → Int} (hv : Tv s st n lo hi) (f u : Int) (k : Nat) (hk : k ≤ n) : okO (fo f u (strs s st lo hi k)) := by
  have hs : ∀ x ∈ strs s st lo hi k, -100000 ≤ x.2.2.1 ∧ x.2.2.1 ≤ x.2.2.2 ∧ x.2.2.2 ≤ 100000 := strs_hs hv k hk
  have : ∀ l : List Q4, (∀ x ∈ l, -100000 ≤ x.2.2.1 ∧ x.2.2.1 ≤ x.2.2.2 ∧ x.2.2.2 ≤ 100000) → ∀ o, okO o → okO (l.foldl (accS f u) o) := by
    intro l
    induction l with
    | nil => intro _ o ho; exact ho
    | cons x l ih =>
      intro hl o ho
      refine ih (fun y hy => hl y (by simp [hy])) _ ?_
      have hx := hl x (by simp)
      unfold accS
      cases hitS f u x with
      | false => exact ho
      | true =>
        cases o with
        | none => exact hx
        | some a => simp only [okO, cond_true] at ho ⊢; omega
  exact this _ hs none trivial
theorem accS_m {f u xa xc xl xh : Int} {o : Option (Int × Int)} (h : xc < f ∨ u < xa) : accS f u o (xa, xc, xl, xh) = o := by
  rcases h with h | h
  · exact accS_m1 h
  · exact accS_m2 h
theorem strs_mid {s st : Int} {lo hi : Nat → Int} {k : Nat} (h : 1 < st) (hk : 0 < k) : strs s st lo hi (k + 1) = strs s st lo hi k ++ [(s + (k : Int) * st - st + 1, s + (k : Int) * st - 1, min (lo (k - 1)) (lo k), max (hi (k - 1)) (hi k))] ++ [(s + (k : Int) * st, s + (k : Int) * st, lo k, hi k)] := by
  obtain ⟨j, rfl⟩ : ∃ j, k = j + 1 := ⟨k - 1, by omega⟩
  rw [strs_two h]
  simp only [midS, rowS, Nat.add_sub_cancel, Int.natCast_add, Int.cast_ofNat_Int]
theorem strs_row {s st : Int} {lo hi : Nat → Int} {k : Nat} (h : ¬ (0 < k ∧ 1 < st)) : strs s st lo hi (k + 1) = strs s st lo hi k ++ [(s + (k : Int) * st, s + (k : Int) * st, lo k, hi k)] := by
  rcases Nat.eq_zero_or_pos k with rfl | hk
  · simp [strs, rowS]
  · exact strs_one (by omega) k
theorem round_t {s st : Int} {n : Nat} {lo hi : Nat → Int} (hv : Tv s st n lo hi) {k : Nat} (hk : k ≤ n) : n ≤ k ∨ ((k < n ∧ n ≤ 200 ∧ 0 ≤ s ∧ 1 ≤ st ∧ st ≤ 1000) ∧ (0 ≤ (k : Int) * st ∧ (k : Int) * st ≤ 10000000 ∧ s + (k : Int) * st ≤ 10000000) ∧ (-100000 ≤ lo k ∧ lo k ≤ hi k ∧ hi k ≤ 100000) ∧
    ((0 < k ∧ 1 < st ∧ (-100000 ≤ lo (k - 1) ∧ lo (k - 1) ≤ hi (k - 1) ∧ hi (k - 1) ≤ 100000) ∧ st ≤ (k : Int) * st) ∨ ¬ (0 < k ∧ 1 < st))) := by
  rcases Nat.lt_or_ge k n with h | h
  · refine Or.inr ⟨⟨h, hv.n1, hv.s0, hv.st0, hv.st1⟩, ?_, hv.hs k h, ?_⟩
    · obtain ⟨a, b, c⟩ := hv.at h
      have := hv.s0
      omega
    · by_cases h2 : 0 < k ∧ 1 < st
      · refine Or.inl ⟨h2.1, h2.2, hv.hs (k - 1) (by omega), ?_⟩
        have : 1 * st ≤ (k : Int) * st := Int.mul_le_mul_of_nonneg_right (by omega) (by omega)
        omega
      · exact Or.inr h2
  · exact Or.inl h
theorem fo_cases {s st : Int} {n : Nat} {lo hi : Nat → Int} (hv : Tv s st n lo hi) (f u : Int) {k : Nat} (hk : k ≤ n) : fo f u (strs s st lo hi k) = none ∨ ∃ a1 a2, fo f u (strs s st lo hi k) = some (a1, a2) ∧ -100000 ≤ a1 ∧ a1 ≤ a2 ∧ a2 ≤ 100000 := by
  have := fo_okk hv f u k hk
  cases h : fo f u (strs s st lo hi k) with
  | none => exact Or.inl rfl
  | some a => rw [h] at this; exact Or.inr ⟨a.1, a.2, rfl, this⟩
theorem join_ok (a b c d : Int) (h1 : -100000 ≤ a) (h2 : a ≤ b) (h3 : b ≤ 100000) (h4 : -100000 ≤ c) (h5 : c ≤ d) (h6 : d ≤ 100000) : CallsP Try.prog 54 [.agg [.g (.int .i64 a), .g (.int .i64 b)], .agg [.g (.int .i64 c), .g (.int .i64 d)]] (.tup [.agg [.g (.int .i64 (min a c)), .g (.int .i64 (max b d))], .one (.g (.int .i64 0))]) := by
  have h := join_p a b c d
  obtain ⟨e1, e2, e3⟩ := jj (a := a) (b := b) (c := c) (d := d) ⟨h1, h2, h3⟩ ⟨h4, h5, h6⟩
  rw [e1, e2, e3] at h
  exact h
theorem he_1 {s st : Int} {n : Nat} {lo hi : Nat → Int} {f u : Int} (h : ((tval s st n lo hi = false ∨ tm f = false) ∨ tm u = false) ∨ f > u) : HL s st n lo hi f u = 0 ∧ HH s st n lo hi f u = 0 ∧ HE s st n lo hi f u = 1 := by
  have e : HE s st n lo hi f u = 1 := by
    unfold HE; rw [if_neg]
    rintro ⟨a, b, c, d⟩
    rw [a, b, c] at h; simp at h; omega
  simp [HL, HH, e]
theorem he_4 {s st : Int} {n : Nat} {lo hi : Nat → Int} {f u : Int} (h : ((tval s st n lo hi = true ∧ tm f = true) ∧ tm u = true) ∧ f ≤ u) (h2 : f < s ∨ u > s + ((n : Int) - 1) * st) : HL s st n lo hi f u = 0 ∧ HH s st n lo hi f u = 0 ∧ HE s st n lo hi f u = 4 := by
  have e : HE s st n lo hi f u = 4 := by
    unfold HE; rw [if_pos ⟨h.1.1.1, h.1.1.2, h.1.2, h.2⟩, if_neg (by omega)]
  simp [HL, HH, e]
theorem he_0 {s st : Int} {n : Nat} {lo hi : Nat → Int} {f u : Int} (h : ((tval s st n lo hi = true ∧ tm f = true) ∧ tm u = true) ∧ f ≤ u) (h2 : s ≤ f ∧ u ≤ s + ((n : Int) - 1) * st) : HE s st n lo hi f u = 0 := by
  unfold HE; rw [if_pos ⟨h.1.1.1, h.1.1.2, h.1.2, h.2⟩, if_pos h2]
theorem hl_0 {s st : Int} {n k : Nat} {lo hi : Nat → Int} {f u : Int} (h : ((tval s st n lo hi = true ∧ tm f = true) ∧ tm u = true) ∧ f ≤ u) (h2 : s ≤ f ∧ u ≤ s + ((n : Int) - 1) * st) (hk : k = n) : oL (fo f u (strs s st lo hi k)) = HL s st n lo hi f u ∧ oH (fo f u (strs s st lo hi k)) = HH s st n lo hi f u := by
  subst hk
  simp [HL, HH, he_0 h h2]

theorem last_v {s st : Int} {n : Nat} {lo hi : Nat → Int} (hv : tval s st n lo hi = true) : CallsP Try.prog 52 [tideP s st n lo hi] (.t (.one (.g (.int .i64 (s + ((n : Int) - 1) * st))))) := by
  have t := tval_tv hv
  have h := last_p s st n lo hi
  rw [lastW_eq t.s0 t.s1 t.n0 t.n1 t.st0 t.st1] at h
  exact h

set_option maxRecDepth 100000 in
set_option maxHeartbeats 4000000 in
theorem height_1 (s st : Int) (n : Nat) (lo hi : Nat → Int) (f u : Int) (h : (((tval s st n lo hi && tm f) && tm u) && decide (f ≤ u)) = false) : CallsP Try.prog 19 [tideP s st n lo hi, .one (.g (.int .i64 (f))), .one (.g (.int .i64 (u)))] (.tup [.agg [.g (.int .i64 (0)), .g (.int .i64 (0))], .one (.g (.int .i64 (1)))]) := by
  refine CallsP_of Try.func19 rfl (by rw [Try.ntmps19]; simp) ?_
  simp only [Try.ntmps19, List.map_cons, List.map_nil, PT.tv, argEnv, Nat.zero_add, Nat.reduceAdd]
  repeat' (first
    | (with_reducible refine AW_seq_k fun K hK => ?_)
    | ((first | (with_reducible refine And.intro ?_ ?_) | (with_reducible refine Need.mk ?_)); focus (first | exact True.intro | (with_reducible assumption) | omega | (refine ⟨?_, ?_⟩ <;> omega) | (intro _; first | exact True.intro | (with_reducible assumption) | omega) | (intros; (repeat' (first | exact True.intro | omega | (with_reducible assumption) | (with_reducible refine And.intro ?_ ?_))); done) | (simp (disch := omega) only [Bool.and_eq_true, Bool.or_eq_true, decide_eq_true_eq, bne_iff_ne, ne_eq] at *; first | done | omega | (intros; omega)) | (simp; done) | (simp; omega) | (simp +contextual; done) | (intro h; rw [h]; rfl) | (intros; simp_all; done)))
    | (with_reducible refine AW_skip ?_)
    | (with_reducible refine AW_exit ?_)
    | (with_reducible refine AW_ret ?_)
    | (with_reducible refine retK_n ?_)
    | (with_reducible refine retK_n' ?_)
    | (with_reducible refine retH_n rfl rfl rfl ?_)
    | (with_reducible refine retH_n' rfl rfl rfl ?_)
    | (with_reducible refine AW_condI ?_)
    | (with_reducible refine AW_block ?_)
    | ((with_reducible refine condN_t ?_ ?_) <;> (intro hc; (try simp only [Bool.and_eq_true, Bool.or_eq_true, Bool.not_eq_true', Bool.and_eq_false_iff, Bool.or_eq_false_iff, decide_eq_true_eq, decide_eq_false_iff_not, bne_iff_ne, beq_iff_eq, reduceCtorEq, bne_eq_false_iff_eq, beq_eq_false_iff_ne, Bool.not_eq_false', Int.not_le, Int.not_lt, Bool.not_not] at hc); (try (exfalso; first | contradiction | omega))))
    | (with_reducible refine AW_regionP 0 [0, 1, 2, 43] ?_)
    | (with_reducible refine AW_regionP 1 [3, 4, 5, 6, 43] ?_)
    | (with_reducible refine AW_regionP 2 [6] ?_)
    | ((with_reducible refine AW_prune (c := Code.region 3 _ true) [3, 4, 5, 6, 43] ?_); (with_reducible refine AW_regionD ?_ ?_ ?_ ?_); (focus kernel_rfl); (focus kernel_rfl); (focus kernel_rfl))
    | (with_reducible refine AW_regionP 4 [6] ?_)
    | (with_reducible refine AW_regionP 5 [3, 4, 5, 6, 43] ?_)
    | (with_reducible refine AW_regionP 6 [3, 4, 5, 6, 8, 43] ?_)
    | (with_reducible refine AW_regionP 7 [3, 4, 5, 6, 8, 9, 43] ?_)
    | (with_reducible refine AW_regionP 8 [4, 5, 6, 8, 9, 43] ?_)
    | (with_reducible refine AW_regionP 9 [4, 5, 6, 8, 9, 10, 43] ?_)
    | (with_reducible refine AW_regionP 10 [4, 5, 6, 8, 9, 10, 43] ?_)
    | (with_reducible refine AW_regionP 11 [4, 5, 6, 8, 9, 10, 43] ?_)
    | (with_reducible refine AW_regionP 12 [4, 5, 6, 8, 9, 10, 43] ?_)
    | (with_reducible refine AW_regionP 13 [6, 8] ?_)
    | ((with_reducible refine And.intro ?_ ?_); focus ((with_reducible show chkR _ _ _ = true); kernel_rfl))
    | (refine callN_q (k := 18) fnok_18 (valid_p _ _ _ _ _) ?_ ?_)
    | (refine callGN_q (k := 49) fnok_49 (fun hg => isTime_p _) ?_ ?_)
    | (refine callDGN_q (k := 52) fnok_52 (fun hg => last_p _ _ _ _ _) ?_ ?_)
    | (refine callN_q (k := 54) fnok_54 (join_ok _ _ _ _ (by omega) (by omega) (by omega) (by omega) (by omega) (by omega)) ?_ ?_)
    | ((fail_if_success (with_reducible show AW _ _ _ _)); simp (maxSteps := 2000000) only [go_sem, reduceIte, reduceCtorEq, Nat.reduceAdd, Nat.reduceLT, Nat.reduceLeDiff, Nat.reduceEqDiff, Nat.reduceMul, Nat.reduceSub, Nat.reduceBEq, Try.f19, zc_31, ty_24, fnok_18, ty_3, fnok_49, fo_31, ty_31, of_24_0, fnok_52, zc_4, ty_4, fnok_48, zc_68, ty_68, of_68_0, of_31_1, of_31_0, of_68_1, fnok_54])
    | ((with_reducible refine hK _ ?_); clear hK K))
  all_goals (simp_all; try omega)

set_option maxRecDepth 100000 in
set_option maxHeartbeats 4000000 in
theorem height_4 (s st : Int) (n : Nat) (lo hi : Nat → Int) (f u : Int) (hv0 : tval s st n lo hi = true) (hf : tm f = true) (hu : tm u = true) (h1 : f ≤ u) (h2 : f < s ∨ u > s + ((n : Int) - 1) * st) : CallsP Try.prog 19 [tideP s st n lo hi, .one (.g (.int .i64 (f))), .one (.g (.int .i64 (u)))] (.tup [.agg [.g (.int .i64 (0)), .g (.int .i64 (0))], .one (.g (.int .i64 (4)))]) := by
  refine CallsP_of Try.func19 rfl (by rw [Try.ntmps19]; simp) ?_
  simp only [Try.ntmps19, List.map_cons, List.map_nil, PT.tv, argEnv, Nat.zero_add, Nat.reduceAdd]
  repeat' (first
    | (with_reducible refine AW_seq_k fun K hK => ?_)
    | ((first | (with_reducible refine And.intro ?_ ?_) | (with_reducible refine Need.mk ?_)); focus (first | exact True.intro | (with_reducible assumption) | omega | (refine ⟨?_, ?_⟩ <;> omega) | (intro _; first | exact True.intro | (with_reducible assumption) | omega) | (intros; (repeat' (first | exact True.intro | omega | (with_reducible assumption) | (with_reducible refine And.intro ?_ ?_))); done) | (simp (disch := omega) only [Bool.and_eq_true, Bool.or_eq_true, decide_eq_true_eq, bne_iff_ne, ne_eq] at *; first | done | omega | (intros; omega)) | (simp; done) | (simp; omega) | (simp +contextual; done) | (intro h; rw [h]; rfl) | (intros; simp_all; done)))
    | (with_reducible refine AW_skip ?_)
    | (with_reducible refine AW_exit ?_)
    | (with_reducible refine AW_ret ?_)
    | (with_reducible refine retK_n ?_)
    | (with_reducible refine retK_n' ?_)
    | (with_reducible refine retH_n rfl rfl rfl ?_)
    | (with_reducible refine retH_n' rfl rfl rfl ?_)
    | (with_reducible refine AW_condI ?_)
    | (with_reducible refine AW_block ?_)
    | ((with_reducible refine condN_t ?_ ?_) <;> (intro hc; (try simp only [Bool.and_eq_true, Bool.or_eq_true, Bool.not_eq_true', Bool.and_eq_false_iff, Bool.or_eq_false_iff, decide_eq_true_eq, decide_eq_false_iff_not, bne_iff_ne, beq_iff_eq, reduceCtorEq, bne_eq_false_iff_eq, beq_eq_false_iff_ne, Bool.not_eq_false', Int.not_le, Int.not_lt, Bool.not_not] at hc); (try (exfalso; first | contradiction | omega))))
    | (with_reducible refine AW_regionP 0 [0, 1, 2, 43] ?_)
    | (with_reducible refine AW_regionP 1 [3, 4, 5, 6, 43] ?_)
    | (with_reducible refine AW_regionP 2 [6] ?_)
    | ((with_reducible refine AW_prune (c := Code.region 3 _ true) [3, 4, 5, 6, 43] ?_); (with_reducible refine AW_regionD ?_ ?_ ?_ ?_); (focus kernel_rfl); (focus kernel_rfl); (focus kernel_rfl))
    | (with_reducible refine AW_regionP 4 [6] ?_)
    | (with_reducible refine AW_regionP 5 [3, 4, 5, 6, 43] ?_)
    | (with_reducible refine AW_regionP 6 [3, 4, 5, 6, 8, 43] ?_)
    | (with_reducible refine AW_regionP 7 [3, 4, 5, 6, 8, 9, 43] ?_)
    | (with_reducible refine AW_regionP 8 [4, 5, 6, 8, 9, 43] ?_)
    | (with_reducible refine AW_regionP 9 [4, 5, 6, 8, 9, 10, 43] ?_)
    | (with_reducible refine AW_regionP 10 [4, 5, 6, 8, 9, 10, 43] ?_)
    | (with_reducible refine AW_regionP 11 [4, 5, 6, 8, 9, 10, 43] ?_)
    | (with_reducible refine AW_regionP 12 [4, 5, 6, 8, 9, 10, 43] ?_)
    | (with_reducible refine AW_regionP 13 [6, 8] ?_)
    | ((with_reducible refine And.intro ?_ ?_); focus ((with_reducible show chkR _ _ _ = true); kernel_rfl))
    | (refine callN_q (k := 18) fnok_18 (valid_p _ _ _ _ _) ?_ ?_)
    | (refine callGN_q (k := 49) fnok_49 (fun hg => isTime_p _) ?_ ?_)
    | (refine callDGN_q (k := 52) fnok_52 (fun hg => last_v hv0) ?_ ?_)
    | (refine callN_q (k := 54) fnok_54 (join_ok _ _ _ _ (by omega) (by omega) (by omega) (by omega) (by omega) (by omega)) ?_ ?_)
    | ((fail_if_success (with_reducible show AW _ _ _ _)); simp (maxSteps := 2000000) only [go_sem, reduceIte, reduceCtorEq, Nat.reduceAdd, Nat.reduceLT, Nat.reduceLeDiff, Nat.reduceEqDiff, Nat.reduceMul, Nat.reduceSub, Nat.reduceBEq, Try.f19, zc_31, ty_24, fnok_18, ty_3, fnok_49, fo_31, ty_31, of_24_0, fnok_52, zc_4, ty_4, fnok_48, zc_68, ty_68, of_68_0, of_31_1, of_31_0, of_68_1, fnok_54, hv0, hf, hu])
    | ((with_reducible refine hK _ ?_); clear hK K))
  all_goals (simp_all; try omega)

end Go.Proofs.Ythfnmooeijneoaa
