/- S: walks on abstract states. -/
import Derived.Test.YthfnmooeijneoaaR
import Derived.Test.YthfnmooeijneoaaB
set_option linter.unusedVariables false
set_option linter.unusedSimpArgs false
namespace Go.Proofs.Ythfnmooeijneoaa
open Go.RowKit Go.Sea
attribute [local go_sem] callK_N gf gk gdrop lkL setL lsF ltAll rdyL bodyF roundQ roundS loopQ loopS jumpOf inLs yV yA bAV zipPut purgeG List.tail_cons Option.isNone_none Option.isNone_some callGK_f callDK_f callDGK_f retN retHN blockA arun_nil arun_plain arun_guard plainF guardF guardB arunD_nil arunD_plain arunD_guard plainDF guardDF guardDB AS.ent Eff.noApp Eff.tgt ftF AV.refs TV.refs CV.refs LV.refs Op.operands Call.operands List.append_toArray List.push_toArray List.flatMap_cons List.flatMap_nil List.toList_toArray Option.toArray List.reverse_cons List.reverse_nil opF AS.ev constA lk AS.get AV.tv AV.nd AS.eff AS.put argEnv PT.tv PV.av AV.mbOf hset hget TV.cells dstOk thenA gB isB toB TV.bool? TV.int? intF loadF storeF fieldF indexF lenF sliceF optI appF minmaxF ipCells fillF repC partsF lvsF TV.lv LV.tv purgeE purgeC purgeH AV.purge CV.purge AV.has TV.has CV.has LV.has calleeF argsF tvsF toPT toIV toIVs toPTs toPV civ isIv iA bA List.map_cons List.map_nil List.length_nil List.length_cons List.getElem?_cons_zero List.getElem?_cons_succ List.getElem?_nil Option.getD_some Option.getD_none Option.bind_some Option.bind_none List.take_succ_cons List.take_zero List.drop_succ_cons List.drop_zero List.take_nil List.drop_nil List.cons_append List.nil_append List.append_nil List.getD_cons_zero List.getD_cons_succ Option.map_some Option.map_none Option.isSome_some Option.isSome_none List.size_toArray List.any_cons List.any_nil List.mem_cons if_true if_false ite_true ite_false cond_true cond_false Nat.zero_add Nat.add_zero Nat.sub_zero Nat.le_refl Nat.zero_mul Nat.mul_zero Nat.one_mul Nat.mul_one Int.toNat_zero Int.toNat_natCast Bool.or_false Bool.false_or Bool.or_true Bool.true_or Bool.and_true Bool.true_and Bool.and_false Bool.false_and beq_self_eq_true beq_true beq_false Bool.not_true Bool.not_false and_true true_and and_false false_and and_self imp_self Bool.cond_false_right Bool.cond_true_left implies_true forall_const true_implies false_implies Option.some.injEq Prod.mk.injEq ne_eq not_false_eq_true not_true_eq_false eq_self Nat.lt_irrefl Nat.not_lt_zero boF seaMin seaMax seaNat1 seaNat2 Value.bool.injEq Value.int.injEq srcF lstC TV.dp IV.eqv PT.eqv PV.eqv All2 keepE hupd callZ_N AS.frz AS.frzW frzs frzsOk frzOk frzE frzA frzT frzC frzG frzH hdel cmpS eqF eqC gvs eqVs eqV decide_true resF tupA inlQ okL okGL okG nextL wkH wkC wkV nilA nilC AV.ok TV.ok CV.ok LV.ok okB forall_eq_or_imp forall_eq List.not_mem_nil List.mem_singleton true_or or_true or_false false_or exists_prop AV.t.injEq TV.one.injEq CV.iv.injEq IV.g.injEq TV.agg.injEq List.cons.injEq
theorem fnok_17 : fnOk Try.prog 17 = true := by kernel_rfl
theorem fnok_55 : fnOk Try.prog 55 = true := by kernel_rfl
theorem fnok_56 : fnOk Try.prog 56 = true := by kernel_rfl
theorem fnok_57 : fnOk Try.prog 57 = true := by kernel_rfl

theorem rjoin_ok (a b c d : Int) (h1 : -100000 ≤ a) (h2 : a ≤ b) (h3 : b ≤ 100000) (h4 : -100000 ≤ c) (h5 : c ≤ d) (h6 : d ≤ 100000) : CallsP Try.prog 57 [.agg [.g (.int .i64 a), .g (.int .i64 b)], .agg [.g (.int .i64 c), .g (.int .i64 d)]] (.tup [.agg [.g (.int .i64 (min a c)), .g (.int .i64 (max b d))], .one (.g (.int .i64 0))]) := by
  have h := rjoin_p a b c d
  obtain ⟨e1, e2, e3⟩ := jj (a := a) (b := b) (c := c) (d := d) ⟨h1, h2, h3⟩ ⟨h4, h5, h6⟩
  rw [e1, e2, e3] at h
  exact h
theorem rlast_v {s st : Int} {n : Nat} {lo hi : Nat → Int} (hv : tval s st n lo hi = true) : CallsP Try.prog 55 [tideP s st n lo hi] (.t (.one (.g (.int .i64 (s + ((n : Int) - 1) * st))))) := by
  have t := tval_tv hv
  have h := rlast_p s st n lo hi
  rw [lastW_eq t.s0 t.s1 t.n0 t.n1 t.st0 t.st1] at h
  exact h
def mnF (h : Int → Int) (f : Int) : Nat → Int
  | 0 => h f
  | k + 1 => min (mnF h f k) (h (f + 1 + k))
def mxF (h : Int → Int) (f : Int) : Nat → Int
  | 0 => h f
  | k + 1 => max (mxF h f k) (h (f + 1 + k))
theorem mnF_min (h : Int → Int) (f : Int) : ∀ k : Nat, IsMin h f (f + k) (mnF h f k)
  | 0 => ⟨fun t h1 h2 => by
      obtain rfl : t = f := by omega
      exact Int.le_refl _, f, by omega, by omega, rfl⟩
  | k + 1 => by
    obtain ⟨a, x, b1, b2, b3⟩ := mnF_min h f k
    refine ⟨fun t h1 h2 => ?_, ?_⟩
    · simp only [mnF]
      by_cases e : t ≤ f + k
      · have := a t h1 e; omega
      · obtain rfl : t = f + 1 + k := by omega
        omega
    · simp only [mnF]
      rcases Int.le_total (mnF h f k) (h (f + 1 + k)) with g | g
      · exact ⟨x, b1, by omega, by omega⟩
      · exact ⟨f + 1 + k, by omega, by omega, by omega⟩
theorem mxF_max (h : Int → Int) (f : Int) : ∀ k : Nat, IsMax h f (f + k) (mxF h f k)
  | 0 => ⟨fun t h1 h2 => by
      obtain rfl : t = f := by omega
      exact Int.le_refl _, f, by omega, by omega, rfl⟩
  | k + 1 => by
    obtain ⟨a, x, b1, b2, b3⟩ := mxF_max h f k
    refine ⟨fun t h1 h2 => ?_, ?_⟩
    · simp only [mxF]
      by_cases e : t ≤ f + k
      · have := a t h1 e; omega
      · obtain rfl : t = f + 1 + k := by omega
        omega
    · simp only [mxF]
      rcases Int.le_total (mxF h f k) (h (f + 1 + k)) with g | g
      · exact ⟨f + 1 + k, by omega, by omega, by omega⟩
      · exact ⟨x, b1, by omega, by omega⟩
theorem at_bd {s st : Int} {n : Nat} {lo hi : Nat → Int} (hv : Tv s st n lo hi) {x : Int} (h1 : s ≤ x) (h2 : x ≤ s + ((n : Int) - 1) * st) : -100000 ≤ hL s st lo x ∧ hL s st lo x ≤ hH s st hi x ∧ hH s st hi x ≤ 100000 := by
  obtain ⟨i1, i2⟩ := idx hv.st0 hv.n0 h1 h2
  have a := hv.hs _ i1
  unfold hL hH
  split
  · exact a
  · rename_i hm
    have b := hv.hs _ (i2 hm)
    omega
theorem mn_bd {s st : Int} {n : Nat} {lo hi : Nat → Int} (hv : Tv s st n lo hi) {f : Int} (h1 : s ≤ f) : ∀ k : Nat, f + k ≤ s + ((n : Int) - 1) * st → -100000 ≤ mnF (hL s st lo) f k ∧ mnF (hL s st lo) f k ≤ mxF (hH s st hi) f k ∧ mxF (hH s st hi) f k ≤ 100000
  | 0, h => at_bd hv h1 (by omega)
  | k + 1, h => by
    have a := mn_bd hv h1 k (by omega)
    have b := at_bd hv (x := f + 1 + k) (by omega) (by omega)
    simp only [mnF, mxF]; omega
theorem hr_round {s st : Int} {n : Nat} {lo hi : Nat → Int} (hv : Tv s st n lo hi) {f u : Int} (h1 : s ≤ f) (h2 : u ≤ s + ((n : Int) - 1) * st) (k : Nat) (hk : f + k ≤ u) : u < f + 1 + k ∨ (f + 1 + (k : Int) ≤ u ∧ (-100000 ≤ hL s st lo (f + 1 + k) ∧ hL s st lo (f + 1 + k) ≤ hH s st hi (f + 1 + k) ∧ hH s st hi (f + 1 + k) ≤ 100000) ∧ (-100000 ≤ mnF (hL s st lo) f k ∧ mnF (hL s st lo) f k ≤ mxF (hH s st hi) f k ∧ mxF (hH s st hi) f k ≤ 100000)) := by
  by_cases h : u < f + 1 + k
  · exact Or.inl h
  · exact Or.inr ⟨by omega, at_bd hv (by omega) (by omega), mn_bd hv h1 k (by omega)⟩
theorem hr_end {s st : Int} {n : Nat} {lo hi : Nat → Int} {f u : Int} (h : HE s st n lo hi f u = 0) {k : Nat} (hk : f + (k : Int) = u) : mnF (hL s st lo) f k = HL s st n lo hi f u ∧ mxF (hH s st hi) f k = HH s st n lo hi f u := by
  obtain ⟨_, _, a, b, _⟩ := he_ok h
  subst hk
  exact ⟨(mnF_min _ f k).uniq a, (mxF_max _ f k).uniq b⟩
theorem quo_x {s st x : Int} (h1 : s ≤ x) (hx : x ≤ 10000000) (h0 : 0 ≤ s) : IntKind.i64.wrap (x - s) = x - s ∧ (x - s).tdiv st = (x - s) / st ∧ (x - s).tmod st = (x - s) % st := ⟨seaWrap (by omega) (by omega), seaDiv (by omega), seaMod (by omega)⟩
theorem quo_f {s st x : Int} {n k : Nat} {lo hi : Nat → Int} (hv : Tv s st n lo hi) (hq : (x - s) / st = (k : Int)) (hk : k < n) : (st == 0) = false ∧ IntKind.i64.wrap (k : Int) = k ∧ IntKind.i64.wrap ((k : Int) + 1) = ((k + 1 : Nat) : Int) := by
  have := hv.st0
  have := hv.n1
  exact ⟨beq_eq_false_iff_ne.2 (by omega), seaWrap (by omega) (by omega), (seaWrap (by omega) (by omega)).trans rfl⟩

set_option maxRecDepth 100000 in
set_option maxHeartbeats 4000000 in
theorem rat_0 (s st : Int) (n : Nat) (lo hi : Nat → Int) (x : Int) (hv : Tv s st n lo hi) (h1 : s ≤ x) (hx : x ≤ 10000000) (k : Nat) (hq : (x - s) / st = (k : Int)) (hk : k < n) (s0 : 0 ≤ s) (t0 : 1 ≤ st) (t1 : st ≤ 1000) (n1 : n ≤ 200) (b0 : -100000 ≤ lo k) (b1 : lo k ≤ hi k) (b2 : hi k ≤ 100000) (hr : (x - s) % st = 0) : CallsP Try.prog 56 [tideP s st n lo hi, .one (.g (.int .i64 (x)))] (.t (.agg [.g (.int .i64 (lo k)), .g (.int .i64 (hi k))])) := by
  obtain ⟨hx1, hx2, hx3⟩ := quo_x (st := st) h1 hx s0
  obtain ⟨hx4, hx5, hx6⟩ := quo_f hv hq hk
  refine CallsP_of Try.func56 rfl (by rw [Try.ntmps56]; simp) ?_
  simp only [Try.ntmps56, List.map_cons, List.map_nil, PT.tv, argEnv, Nat.zero_add, Nat.reduceAdd]
  repeat' (first
    | (with_reducible refine AW_seq_k fun K hK => ?_)
    | ((first | (with_reducible refine And.intro ?_ ?_) | (with_reducible refine Need.mk ?_)); focus (first | exact True.intro | (with_reducible assumption) | omega | (refine ⟨?_, ?_⟩ <;> omega) | (intro _; first | exact True.intro | (with_reducible assumption) | omega) | (intros; (repeat' (first | exact True.intro | omega | (with_reducible assumption) | (with_reducible refine And.intro ?_ ?_))); done) | (simp (disch := omega) only [Bool.and_eq_true, Bool.or_eq_true, decide_eq_true_eq, bne_iff_ne, ne_eq] at *; first | done | omega | (intros; omega)) | (simp; done) | (simp; omega) | (simp +contextual; done) | (intro h; rw [h]; rfl) | (intros; simp_all; done)))
    | (with_reducible refine AW_skip ?_)
    | (with_reducible refine AW_exit ?_)
    | (with_reducible refine AW_ret ?_)
    | (with_reducible refine retK_n ?_)
    | (with_reducible refine retK_n' ?_)
    | (with_reducible refine retH_n rfl rfl rfl ?_)
    | (with_reducible refine retH_n' rfl rfl rfl ?_)
    | (with_reducible refine AW_condI ?_)
    | (with_reducible refine AW_block ?_)
    | ((with_reducible refine condN_t ?_ ?_) <;> (intro hc; (try simp only [Bool.and_eq_true, Bool.or_eq_true, Bool.not_eq_true', Bool.and_eq_false_iff, Bool.or_eq_false_iff, decide_eq_true_eq, decide_eq_false_iff_not, bne_iff_ne, beq_iff_eq, reduceCtorEq, bne_eq_false_iff_eq, beq_eq_false_iff_ne, Bool.not_eq_false', Int.not_le, Int.not_lt, Bool.not_not] at hc); (try (exfalso; first | contradiction | omega))))
    | (with_reducible refine AW_regionP 0 [0, 1] ?_)
    | (with_reducible refine AW_regionP 1 [1, 2, 4] ?_)
    | (with_reducible refine AW_regionP 2 [1, 2, 4, 5] ?_)
    | (with_reducible refine AW_regionP 3 [2, 4, 5] ?_)
    | ((with_reducible refine AW_prune (c := Code.region 4 _ true) [2, 4, 5] ?_); (with_reducible refine AW_regionD ?_ ?_ ?_ ?_); (focus kernel_rfl); (focus kernel_rfl); (focus kernel_rfl))
    | (with_reducible refine AW_regionP 5 [4, 6] ?_)
    | ((with_reducible refine And.intro ?_ ?_); focus ((with_reducible show chkR _ _ _ = true); kernel_rfl))
    | (refine callDN_q (k := 57) fnok_57 (rjoin_ok _ _ _ _ (by omega) (by omega) (by omega) (by omega) (by omega) (by omega)) ?_ ?_)
    | ((fail_if_success (with_reducible show AW _ _ _ _)); simp (maxSteps := 2000000) only [go_sem, reduceIte, reduceCtorEq, Nat.reduceAdd, Nat.reduceLT, Nat.reduceLeDiff, Nat.reduceEqDiff, Nat.reduceMul, Nat.reduceSub, Nat.reduceBEq, Try.f56, zc_31, of_24_0, ty_3, of_24_1, of_24_2, ty_22, sl_22, ar_22, ty_31, fnok_57, hx1, hx2, hx3, hx4, hx5, hx6, hq, hr, spanF0, spanF1])
    | ((fail_if_success (with_reducible show AW _ _ _ _)); simp (disch := omega) only [seaWrap, seaDiv, seaMod])
    | ((with_reducible refine hK _ ?_); clear hK K))

set_option maxRecDepth 100000 in
set_option maxHeartbeats 4000000 in
theorem rat_1 (s st : Int) (n : Nat) (lo hi : Nat → Int) (x : Int) (hv : Tv s st n lo hi) (h1 : s ≤ x) (hx : x ≤ 10000000) (k : Nat) (hq : (x - s) / st = (k : Int)) (hk : k < n) (s0 : 0 ≤ s) (t0 : 1 ≤ st) (t1 : st ≤ 1000) (n1 : n ≤ 200) (b0 : -100000 ≤ lo k) (b1 : lo k ≤ hi k) (b2 : hi k ≤ 100000) (hr0 : ¬ (x - s) % st = 0) (hr : ((x - s) % st == 0) = false) (hk1 : k + 1 < n) (c0 : -100000 ≤ lo (k + 1)) (c1 : lo (k + 1) ≤ hi (k + 1)) (c2 : hi (k + 1) ≤ 100000) : CallsP Try.prog 56 [tideP s st n lo hi, .one (.g (.int .i64 (x)))] (.t (.agg [.g (.int .i64 (min (lo k) (lo (k + 1)))), .g (.int .i64 (max (hi k) (hi (k + 1))))])) := by
  obtain ⟨hx1, hx2, hx3⟩ := quo_x (st := st) h1 hx s0
  obtain ⟨hx4, hx5, hx6⟩ := quo_f hv hq hk
  refine CallsP_of Try.func56 rfl (by rw [Try.ntmps56]; simp) ?_
  simp only [Try.ntmps56, List.map_cons, List.map_nil, PT.tv, argEnv, Nat.zero_add, Nat.reduceAdd]
  repeat' (first
    | (with_reducible refine AW_seq_k fun K hK => ?_)
    | ((first | (with_reducible refine And.intro ?_ ?_) | (with_reducible refine Need.mk ?_)); focus (first | exact True.intro | (with_reducible assumption) | omega | (refine ⟨?_, ?_⟩ <;> omega) | (intro _; first | exact True.intro | (with_reducible assumption) | omega) | (intros; (repeat' (first | exact True.intro | omega | (with_reducible assumption) | (with_reducible refine And.intro ?_ ?_))); done) | (simp (disch := omega) only [Bool.and_eq_true, Bool.or_eq_true, decide_eq_true_eq, bne_iff_ne, ne_eq] at *; first | done | omega | (intros; omega)) | (simp; done) | (simp; omega) | (simp +contextual; done) | (intro h; rw [h]; rfl) | (intros; simp_all; done)))
    | (with_reducible refine AW_skip ?_)
    | (with_reducible refine AW_exit ?_)
    | (with_reducible refine AW_ret ?_)
    | (with_reducible refine retK_n ?_)
    | (with_reducible refine retK_n' ?_)
    | (with_reducible refine retH_n rfl rfl rfl ?_)
    | (with_reducible refine retH_n' rfl rfl rfl ?_)
    | (with_reducible refine AW_condI ?_)
    | (with_reducible refine AW_block ?_)
    | ((with_reducible refine condN_t ?_ ?_) <;> (intro hc; (try simp only [Bool.and_eq_true, Bool.or_eq_true, Bool.not_eq_true', Bool.and_eq_false_iff, Bool.or_eq_false_iff, decide_eq_true_eq, decide_eq_false_iff_not, bne_iff_ne, beq_iff_eq, reduceCtorEq, bne_eq_false_iff_eq, beq_eq_false_iff_ne, Bool.not_eq_false', Int.not_le, Int.not_lt, Bool.not_not] at hc); (try (exfalso; first | contradiction | omega))))
    | (with_reducible refine AW_regionP 0 [0, 1] ?_)
    | (with_reducible refine AW_regionP 1 [1, 2, 4] ?_)
    | (with_reducible refine AW_regionP 2 [1, 2, 4, 5] ?_)
    | (with_reducible refine AW_regionP 3 [2, 4, 5] ?_)
    | ((with_reducible refine AW_prune (c := Code.region 4 _ true) [2, 4, 5] ?_); (with_reducible refine AW_regionD ?_ ?_ ?_ ?_); (focus kernel_rfl); (focus kernel_rfl); (focus kernel_rfl))
    | (with_reducible refine AW_regionP 5 [4, 6] ?_)
    | ((with_reducible refine And.intro ?_ ?_); focus ((with_reducible show chkR _ _ _ = true); kernel_rfl))
    | (refine callDN_q (k := 57) fnok_57 (rjoin_ok _ _ _ _ (by omega) (by omega) (by omega) (by omega) (by omega) (by omega)) ?_ ?_)
    | ((fail_if_success (with_reducible show AW _ _ _ _)); simp (maxSteps := 2000000) only [go_sem, reduceIte, reduceCtorEq, Nat.reduceAdd, Nat.reduceLT, Nat.reduceLeDiff, Nat.reduceEqDiff, Nat.reduceMul, Nat.reduceSub, Nat.reduceBEq, Try.f56, zc_31, of_24_0, ty_3, of_24_1, of_24_2, ty_22, sl_22, ar_22, ty_31, fnok_57, hx1, hx2, hx3, hx4, hx5, hx6, hq, hr, spanF0, spanF1])
    | ((fail_if_success (with_reducible show AW _ _ _ _)); simp (disch := omega) only [seaWrap, seaDiv, seaMod])
    | ((with_reducible refine hK _ ?_); clear hK K))

theorem rat_p {s st : Int} {n : Nat} {lo hi : Nat → Int} {x : Int} (hv0 : tval s st n lo hi = true) (h1 : s ≤ x) (h2 : x ≤ s + ((n : Int) - 1) * st) : CallsP Try.prog 56 [tideP s st n lo hi, .one (.g (.int .i64 (x)))] (.t (.agg [.g (.int .i64 (hL s st lo x)), .g (.int .i64 (hH s st hi x))])) := by
  have hv := tval_tv hv0
  obtain ⟨i1, i2⟩ := idx hv.st0 hv.n0 h1 h2
  have hq : (x - s) / st = (((x - s) / st).toNat : Int) := (Int.toNat_of_nonneg (Int.ediv_nonneg (by omega) (by have := hv.st0; omega))).symm
  have a := hv.hs _ i1
  have l := hv.last
  unfold hL hH
  split
  · rename_i hm
    exact rat_0 s st n lo hi x hv h1 (by omega) _ hq i1 hv.s0 hv.st0 hv.st1 hv.n1 a.1 a.2.1 a.2.2 hm
  · rename_i hm
    have b := hv.hs _ (i2 hm)
    exact rat_1 s st n lo hi x hv h1 (by omega) _ hq i1 hv.s0 hv.st0 hv.st1 hv.n1 a.1 a.2.1 a.2.2 hm (beq_eq_false_iff_ne.2 hm) (i2 hm) b.1 b.2.1 b.2.2

set_option maxRecDepth 100000 in
set_option maxHeartbeats 4000000 in
theorem rheight_1 (s st : Int) (n : Nat) (lo hi : Nat → Int) (f u : Int) (h : (((tval s st n lo hi && tm f) && tm u) && decide (f ≤ u)) = false) : CallsP Try.prog 20 [tideP s st n lo hi, .one (.g (.int .i64 (f))), .one (.g (.int .i64 (u)))] (.tup [.agg [.g (.int .i64 (0)), .g (.int .i64 (0))], .one (.g (.int .i64 (1)))]) := by
  refine CallsP_of Try.func20 rfl (by rw [Try.ntmps20]; simp) ?_
  simp only [Try.ntmps20, List.map_cons, List.map_nil, PT.tv, argEnv, Nat.zero_add, Nat.reduceAdd]
  repeat' (first
    | (with_reducible refine AW_seq_k fun K hK => ?_)
    | ((first | (with_reducible refine And.intro ?_ ?_) | (with_reducible refine Need.mk ?_)); focus (first | exact True.intro | (with_reducible assumption) | omega | (refine ⟨?_, ?_⟩ <;> omega) | (intro _; first | exact True.intro | (with_reducible assumption) | omega) | (intros; (repeat' (first | exact True.intro | omega | (with_reducible assumption) | (with_reducible refine And.intro ?_ ?_))); done) | (simp (disch := omega) only [Bool.and_eq_true, Bool.or_eq_true, decide_eq_true_eq, bne_iff_ne, ne_eq] at *; first | done | omega | (intros; omega)) | (simp; done) | (simp; omega) | (simp +contextual; done) | (intro h; rw [h]; rfl) | (intros; simp_all; done)))
    | (with_reducible refine AW_skip ?_)
    | (with_reducible refine AW_exit ?_)
    | (with_reducible refine AW_ret ?_)
    | (with_reducible refine retK_n ?_)
    | (with_reducible refine retK_n' ?_)
    | (with_reducible refine retH_n rfl rfl rfl ?_)
    | (with_reducible refine retH_n' rfl rfl rfl ?_)
    | (with_reducible refine AW_condI ?_)
    | (with_reducible refine AW_block ?_)
    | ((with_reducible refine condN_t ?_ ?_) <;> (intro hc; (try simp only [Bool.and_eq_true, Bool.or_eq_true, Bool.not_eq_true', Bool.and_eq_false_iff, Bool.or_eq_false_iff, decide_eq_true_eq, decide_eq_false_iff_not, bne_iff_ne, beq_iff_eq, reduceCtorEq, bne_eq_false_iff_eq, beq_eq_false_iff_ne, Bool.not_eq_false', Int.not_le, Int.not_lt, Bool.not_not] at hc); (try (exfalso; first | contradiction | omega))))
    | (with_reducible refine AW_regionP 0 [0, 1, 2] ?_)
    | (with_reducible refine AW_regionP 1 [1, 2, 3, 6] ?_)
    | (with_reducible refine AW_regionP 2 [1, 2, 3, 6, 8] ?_)
    | (with_reducible refine AW_regionP 3 [1, 2, 3, 6, 8, 9] ?_)
    | (with_reducible refine AW_regionP 4 [1, 2, 3, 6, 8, 9, 10] ?_)
    | (with_reducible refine AW_regionP 5 [6] ?_)
    | (with_reducible refine AW_regionP 6 [1, 2, 3, 6] ?_)
    | (with_reducible refine AW_regionP 7 [6] ?_)
    | (with_reducible refine AW_regionP 8 [1, 2, 3, 6] ?_)
    | (with_reducible refine AW_regionP 9 [1, 2, 3, 6, 11] ?_)
    | (with_reducible refine AW_regionP 10 [2, 3, 6, 11, 12] ?_)
    | (with_reducible refine AW_regionP 11 [2, 3, 6, 11, 12] ?_)
    | ((with_reducible refine AW_prune (c := Code.region 12 _ true) [2, 3, 6, 11, 12] ?_); (with_reducible refine AW_regionD ?_ ?_ ?_ ?_); (focus kernel_rfl); (focus kernel_rfl); (focus kernel_rfl))
    | (with_reducible refine AW_regionP 13 [6, 11] ?_)
    | ((with_reducible refine And.intro ?_ ?_); focus ((with_reducible show chkR _ _ _ = true); kernel_rfl))
    | (refine callN_q (k := 17) fnok_17 (rvalid_p _ _ _ _ _) ?_ ?_)
    | (refine callN_q (k := 50) fnok_50 (rTime_p _) ?_ ?_)
    | (refine callGN_q (k := 55) fnok_55 (fun hg => rlast_p _ _ _ _ _) ?_ ?_)
    | ((fail_if_success (with_reducible show AW _ _ _ _)); simp (maxSteps := 2000000) only [go_sem, reduceIte, reduceCtorEq, Nat.reduceAdd, Nat.reduceLT, Nat.reduceLeDiff, Nat.reduceEqDiff, Nat.reduceMul, Nat.reduceSub, Nat.reduceBEq, Try.f20, zc_31, ty_24, fnok_17, fnok_50, fo_31, ty_31, of_24_0, ty_3, fnok_55, fnok_56, fnok_57])
    | ((fail_if_success (with_reducible show AW _ _ _ _)); simp (disch := omega) only [seaWrap, seaDiv, seaMod])
    | ((with_reducible refine hK _ ?_); clear hK K))
  all_goals (simp_all; try omega)

set_option maxRecDepth 100000 in
set_option maxHeartbeats 4000000 in
theorem rheight_4 (s st : Int) (n : Nat) (lo hi : Nat → Int) (f u : Int) (hv0 : tval s st n lo hi = true) (hf : tm f = true) (hu : tm u = true) (h1 : f ≤ u) (h2 : f < s ∨ u > s + ((n : Int) - 1) * st) : CallsP Try.prog 20 [tideP s st n lo hi, .one (.g (.int .i64 (f))), .one (.g (.int .i64 (u)))] (.tup [.agg [.g (.int .i64 (0)), .g (.int .i64 (0))], .one (.g (.int .i64 (4)))]) := by
  refine CallsP_of Try.func20 rfl (by rw [Try.ntmps20]; simp) ?_
  simp only [Try.ntmps20, List.map_cons, List.map_nil, PT.tv, argEnv, Nat.zero_add, Nat.reduceAdd]
  repeat' (first
    | (with_reducible refine AW_seq_k fun K hK => ?_)
    | ((first | (with_reducible refine And.intro ?_ ?_) | (with_reducible refine Need.mk ?_)); focus (first | exact True.intro | (with_reducible assumption) | omega | (refine ⟨?_, ?_⟩ <;> omega) | (intro _; first | exact True.intro | (with_reducible assumption) | omega) | (intros; (repeat' (first | exact True.intro | omega | (with_reducible assumption) | (with_reducible refine And.intro ?_ ?_))); done) | (simp (disch := omega) only [Bool.and_eq_true, Bool.or_eq_true, decide_eq_true_eq, bne_iff_ne, ne_eq] at *; first | done | omega | (intros; omega)) | (simp; done) | (simp; omega) | (simp +contextual; done) | (intro h; rw [h]; rfl) | (intros; simp_all; done)))
    | (with_reducible refine AW_skip ?_)
    | (with_reducible refine AW_exit ?_)
    | (with_reducible refine AW_ret ?_)
    | (with_reducible refine retK_n ?_)
    | (with_reducible refine retK_n' ?_)
    | (with_reducible refine retH_n rfl rfl rfl ?_)
    | (with_reducible refine retH_n' rfl rfl rfl ?_)
    | (with_reducible refine AW_condI ?_)
    | (with_reducible refine AW_block ?_)
    | ((with_reducible refine condN_t ?_ ?_) <;> (intro hc; (try simp only [Bool.and_eq_true, Bool.or_eq_true, Bool.not_eq_true', Bool.and_eq_false_iff, Bool.or_eq_false_iff, decide_eq_true_eq, decide_eq_false_iff_not, bne_iff_ne, beq_iff_eq, reduceCtorEq, bne_eq_false_iff_eq, beq_eq_false_iff_ne, Bool.not_eq_false', Int.not_le, Int.not_lt, Bool.not_not] at hc); (try (exfalso; first | contradiction | omega))))
    | (with_reducible refine AW_regionP 0 [0, 1, 2] ?_)
    | (with_reducible refine AW_regionP 1 [1, 2, 3, 6] ?_)
    | (with_reducible refine AW_regionP 2 [1, 2, 3, 6, 8] ?_)
    | (with_reducible refine AW_regionP 3 [1, 2, 3, 6, 8, 9] ?_)
    | (with_reducible refine AW_regionP 4 [1, 2, 3, 6, 8, 9, 10] ?_)
    | (with_reducible refine AW_regionP 5 [6] ?_)
    | (with_reducible refine AW_regionP 6 [1, 2, 3, 6] ?_)
    | (with_reducible refine AW_regionP 7 [6] ?_)
    | (with_reducible refine AW_regionP 8 [1, 2, 3, 6] ?_)
    | (with_reducible refine AW_regionP 9 [1, 2, 3, 6, 11] ?_)
    | (with_reducible refine AW_regionP 10 [2, 3, 6, 11, 12] ?_)
    | (with_reducible refine AW_regionP 11 [2, 3, 6, 11, 12] ?_)
    | ((with_reducible refine AW_prune (c := Code.region 12 _ true) [2, 3, 6, 11, 12] ?_); (with_reducible refine AW_regionD ?_ ?_ ?_ ?_); (focus kernel_rfl); (focus kernel_rfl); (focus kernel_rfl))
    | (with_reducible refine AW_regionP 13 [6, 11] ?_)
    | ((with_reducible refine And.intro ?_ ?_); focus ((with_reducible show chkR _ _ _ = true); kernel_rfl))
    | (refine callN_q (k := 17) fnok_17 (rvalid_p _ _ _ _ _) ?_ ?_)
    | (refine callN_q (k := 50) fnok_50 (rTime_p _) ?_ ?_)
    | (refine callGN_q (k := 55) fnok_55 (fun hg => rlast_v hv0) ?_ ?_)
    | ((fail_if_success (with_reducible show AW _ _ _ _)); simp (maxSteps := 2000000) only [go_sem, reduceIte, reduceCtorEq, Nat.reduceAdd, Nat.reduceLT, Nat.reduceLeDiff, Nat.reduceEqDiff, Nat.reduceMul, Nat.reduceSub, Nat.reduceBEq, Try.f20, zc_31, ty_24, fnok_17, fnok_50, fo_31, ty_31, of_24_0, ty_3, fnok_55, fnok_56, fnok_57, hv0, hf, hu])
    | ((fail_if_success (with_reducible show AW _ _ _ _)); simp (disch := omega) only [seaWrap, seaDiv, seaMod])
    | ((with_reducible refine hK _ ?_); clear hK K))
  all_goals (simp_all; try omega)

set_option maxRecDepth 100000 in
set_option maxHeartbeats 4000000 in
theorem rheight_0 (s st : Int) (n : Nat) (lo hi : Nat → Int) (f u : Int) (hv0 : tval s st n lo hi = true) (hf : tm f = true) (hu : tm u = true) (h1 : f ≤ u) (h2 : s ≤ f ∧ u ≤ s + ((n : Int) - 1) * st) (f0 : 0 ≤ f) (u1 : u ≤ 10000000) : CallsP Try.prog 20 [tideP s st n lo hi, .one (.g (.int .i64 (f))), .one (.g (.int .i64 (u)))] (.tup [.agg [.g (.int .i64 (HL s st n lo hi f u)), .g (.int .i64 (HH s st n lo hi f u))], .one (.g (.int .i64 (0)))]) := by
  have hv := tval_tv hv0
  refine CallsP_of Try.func20 rfl (by rw [Try.ntmps20]; simp) ?_
  simp only [Try.ntmps20, List.map_cons, List.map_nil, PT.tv, argEnv, Nat.zero_add, Nat.reduceAdd]
  repeat' (first
    | (with_reducible refine AW_seq_k fun K hK => ?_)
    | ((first | (with_reducible refine And.intro ?_ ?_) | (with_reducible refine Need.mk ?_)); focus (first | exact True.intro | (with_reducible assumption) | omega | (refine ⟨?_, ?_⟩ <;> omega) | (intro _; first | exact True.intro | (with_reducible assumption) | omega) | (intros; (repeat' (first | exact True.intro | omega | (with_reducible assumption) | (with_reducible refine And.intro ?_ ?_))); done) | (simp (disch := omega) only [Bool.and_eq_true, Bool.or_eq_true, decide_eq_true_eq, bne_iff_ne, ne_eq] at *; first | done | omega | (intros; omega)) | (simp; done) | (simp; omega) | (simp +contextual; done) | (intro h; rw [h]; rfl) | (intros; simp_all; done)))
    | (with_reducible refine AW_skip ?_)
    | (with_reducible refine AW_exit ?_)
    | (with_reducible refine AW_ret ?_)
    | (with_reducible refine retK_n ?_)
    | (with_reducible refine retK_n' ?_)
    | (with_reducible refine retH_n rfl rfl rfl ?_)
    | (with_reducible refine retH_n' rfl rfl rfl ?_)
    | (with_reducible refine AW_condI ?_)
    | (with_reducible refine AW_block ?_)
    | ((with_reducible refine condN_t ?_ ?_) <;> (intro hc; (try simp only [Bool.and_eq_true, Bool.or_eq_true, Bool.not_eq_true', Bool.and_eq_false_iff, Bool.or_eq_false_iff, decide_eq_true_eq, decide_eq_false_iff_not, bne_iff_ne, beq_iff_eq, reduceCtorEq, bne_eq_false_iff_eq, beq_eq_false_iff_ne, Bool.not_eq_false', Int.not_le, Int.not_lt, Bool.not_not] at hc); (try (exfalso; first | contradiction | omega))))
    | (with_reducible refine AW_regionP 0 [0, 1, 2] ?_)
    | (with_reducible refine AW_regionP 1 [1, 2, 3, 6] ?_)
    | (with_reducible refine AW_regionP 2 [1, 2, 3, 6, 8] ?_)
    | (with_reducible refine AW_regionP 3 [1, 2, 3, 6, 8, 9] ?_)
    | (with_reducible refine AW_regionP 4 [1, 2, 3, 6, 8, 9, 10] ?_)
    | (with_reducible refine AW_regionP 5 [6] ?_)
    | (with_reducible refine AW_regionP 6 [1, 2, 3, 6] ?_)
    | (with_reducible refine AW_regionP 7 [6] ?_)
    | (with_reducible refine AW_regionP 8 [1, 2, 3, 6] ?_)
    | (with_reducible refine AW_regionP 9 [1, 2, 3, 6, 11] ?_)
    | (with_reducible refine AW_regionP 10 [2, 3, 6, 11, 12] ?_)
    | (with_reducible refine AW_regionP 11 [2, 3, 6, 11, 12] ?_)
    | ((with_reducible refine AW_prune (c := Code.region 12 _ true) [2, 3, 6, 11, 12] ?_); (with_reducible refine AW_regionD ?_ ?_ ?_ ?_); (focus kernel_rfl); (focus kernel_rfl); (focus kernel_rfl))
    | (with_reducible refine AW_regionP 13 [6, 11] ?_)
    | ((with_reducible refine And.intro ?_ ?_); focus ((with_reducible show chkR _ _ _ = true); kernel_rfl))
    | (refine callN_q (k := 17) fnok_17 (rvalid_p _ _ _ _ _) ?_ ?_)
    | (refine callN_q (k := 50) fnok_50 (rTime_p _) ?_ ?_)
    | (refine callGN_q (k := 55) fnok_55 (fun hg => rlast_v hv0) ?_ ?_)
    | (refine callDN_q (k := 57) fnok_57 (rjoin_ok _ _ _ _ (by omega) (by omega) (by omega) (by omega) (by omega) (by omega)) ?_ ?_)
    | (refine callN_q (k := 56) fnok_56 (rat_p hv0 (by omega) (by omega)) ?_ ?_)
    | (refine callDN_q (k := 56) fnok_56 (rat_p hv0 (by omega) (by omega)) ?_ ?_)
    | ((with_reducible refine AW_loopQ (c := (Code.seq (Code.seq (Code.region 10 _ _) _) _)) (ι := Nat) [2, 3, 6, 11] (fun k => [(12, iA .i64 (f + 1 + (k : Int)))]) (fun k => [(2, [.iv (.g (.int .i64 (mnF (hL s st lo) f k))), .iv (.g (.int .i64 (mxF (hH s st hi) f k)))])]) (fun k => f + (k : Int) ≤ u) (fun k => (u - f - k).toNat) 0 ?lg10 ?l110 ?l210 ?li10 ?lr10); (case' lg10 => rintro k _); (case' li10 => try omega); (case' lr10 => rintro k hk KR hR10; rcases hr_round hv h2.1 h2.2 k hk with hge | ⟨hlt, ⟨w1, w2, w3⟩, ⟨w4, w5, w6⟩⟩; simp only [keepE, hupd, hset, lk, if_true, if_false, Nat.reduceEqDiff, reduceIte, List.cons_append, List.nil_append, hv0, hf, hu]))
    | ((with_reducible refine hR10 _ (k + 1) ?_); (try clear hR10 KR))
    | ((with_reducible refine Told.mk ?_); simp only [go_sem, reduceIte, reduceCtorEq, Nat.reduceAdd, Nat.reduceLT, Nat.reduceLeDiff, Nat.reduceEqDiff, Nat.reduceMul, Nat.reduceSub, Nat.reduceBEq, hv0, hf, hu] <;> (first | exact True.intro | ((try simp (disch := omega) only [seaWrap, mnF, mxF, Int.natCast_add, Int.cast_ofNat_Int, and_true, true_and, and_self]); (repeat' (first | exact True.intro | omega | rfl | (with_reducible assumption) | (with_reducible refine And.intro ?_ ?_) | (exact Or.inr (Or.inl ⟨rfl, trivial⟩)) | (simp (disch := omega) only [seaWrap, mnF, mxF, Int.natCast_add, Int.cast_ofNat_Int]))); done) | (refine Stuck.out ?_)))
    | ((fail_if_success (with_reducible show AW _ _ _ _)); simp (maxSteps := 2000000) only [go_sem, reduceIte, reduceCtorEq, Nat.reduceAdd, Nat.reduceLT, Nat.reduceLeDiff, Nat.reduceEqDiff, Nat.reduceMul, Nat.reduceSub, Nat.reduceBEq, Try.f20, zc_31, ty_24, fnok_17, fnok_50, fo_31, ty_31, of_24_0, ty_3, fnok_55, fnok_56, fnok_57, hv0, hf, hu])
    | ((fail_if_success (with_reducible show AW _ _ _ _)); simp (disch := omega) only [seaWrap, seaDiv, seaMod])
    | ((with_reducible refine hK _ ?_); clear hK K)
    | (with_reducible apply_assumption -exfalso))
  all_goals (first | omega | (obtain ⟨e1, e2⟩ := hr_end (he_in hv0 ⟨f0, u1, h1, h2.1, h2.2⟩) (k := k) (by omega); exact ⟨e1, e2⟩))

theorem rheight_p (s st : Int) (n : Nat) (lo hi : Nat → Int) (f u : Int) : CallsP Try.prog 20 [tideP s st n lo hi, .one (.g (.int .i64 (f))), .one (.g (.int .i64 (u)))] (.tup [.agg [.g (.int .i64 (HL s st n lo hi f u)), .g (.int .i64 (HH s st n lo hi f u))], .one (.g (.int .i64 (HE s st n lo hi f u)))]) := by
  cases h : (((tval s st n lo hi && tm f) && tm u) && decide (f ≤ u)) with
  | false =>
    have e : ((tval s st n lo hi = false ∨ tm f = false) ∨ tm u = false) ∨ f > u := by
      cases a : tval s st n lo hi <;> cases b : tm f <;> cases c : tm u <;> simp [a, b, c] at h ⊢ <;> omega
    obtain ⟨e1, e2, e3⟩ := he_1 e
    rw [e1, e2, e3]; exact rheight_1 s st n lo hi f u h
  | true =>
    simp only [Bool.and_eq_true, decide_eq_true_eq] at h
    have b := tm_bd h.1.1.2
    have c := tm_bd h.1.2
    by_cases g : s ≤ f ∧ u ≤ s + ((n : Int) - 1) * st
    · rw [he_0 h g]; exact rheight_0 s st n lo hi f u h.1.1.1 h.1.1.2 h.1.2 h.2 g b.1 c.2
    · obtain ⟨e1, e2, e3⟩ := he_4 h (show f < s ∨ u > s + ((n : Int) - 1) * st by omega)
      rw [e1, e2, e3]; exact rheight_4 s st n lo hi f u h.1.1.1 h.1.1.2 h.1.2 h.2 (by omega)

end Go.Proofs.Ythfnmooeijneoaa
