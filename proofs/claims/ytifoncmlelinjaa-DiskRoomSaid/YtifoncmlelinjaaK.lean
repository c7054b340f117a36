/- K: walks on abstract states. -/
import Derived.Test.YtifoncmlelinjaaJ
set_option linter.unusedVariables false
set_option linter.unusedSimpArgs false
namespace Go.Proofs.Ytifoncmlelinjaa
open Go.RowKit Go.Sea
attribute [local go_sem] callK_N gf gk gdrop lkL setL lsF ltAll rdyL bodyF roundQ roundS loopQ loopS jumpOf inLs yV yA bAV zipPut purgeG_nil purgeG_cons List.tail_cons Option.isNone_none Option.isNone_some callGK_f callDK_f callDGK_f retN retHN blockA arun_nil arun_plain arun_guard plainF guardF guardB arunD_nil arunD_plain arunD_guard plainDF guardDF guardDB AS.ent Eff.noApp Eff.tgt ftF AV.refs TV.refs CV.refs LV.refs Op.operands Call.operands List.append_toArray List.push_toArray List.flatMap_cons List.flatMap_nil List.toList_toArray Option.toArray nidF nidA List.reverse_cons List.reverse_nil opF AS.ev constA lk AS.get AV.tv AV.nd AS.eff AS.put argEnv PT.tv PV.av AV.mbOf hset hget TV.cells dstOk thenA gB isB toB TV.bool? TV.int? intF loadF storeF fieldF indexF lenF sliceF optI appF minmaxF ipCells fillF partsF lvsF TV.lv LV.tv purgeE purgeC purgeH AV.purge CV.purge AV.has TV.has CV.has LV.has calleeF argsF tvsF toPT toIV toIVs toPTs toPV iA bA List.map_cons List.map_nil List.length_nil List.length_cons List.getElem?_cons_zero List.getElem?_cons_succ List.getElem?_nil Option.getD_some Option.getD_none Option.bind_some Option.bind_none List.take_succ_cons List.take_zero List.drop_succ_cons List.drop_zero List.take_nil List.drop_nil List.cons_append List.nil_append List.append_nil List.getD_cons_zero List.getD_cons_succ Option.map_some Option.map_none Option.isSome_some Option.isSome_none List.size_toArray List.any_cons List.any_nil List.mem_cons if_true if_false ite_true ite_false cond_true cond_false Nat.zero_add Nat.add_zero Nat.sub_zero Nat.le_refl Nat.zero_mul Nat.mul_zero Nat.one_mul Nat.mul_one Int.toNat_zero Int.toNat_natCast Bool.or_false Bool.false_or Bool.or_true Bool.true_or Bool.and_true Bool.true_and Bool.and_false Bool.false_and beq_self_eq_true beq_true beq_false Bool.not_true Bool.not_false and_true true_and and_false false_and and_self imp_self Bool.cond_false_right Bool.cond_true_left implies_true forall_const true_implies false_implies Option.some.injEq Prod.mk.injEq ne_eq not_false_eq_true not_true_eq_false eq_self Nat.lt_irrefl Nat.not_lt_zero op2F ncF slice3F offF slArrF copyF clearF toArrF callDK_t calleeT eqN barOp boF seaMin seaMax seaNat1 seaNat2 Value.bool.injEq Value.int.injEq srcF TV.dp IV.eqv PT.eqv PV.eqv All2 keepE hupd callZ_N AS.frz AS.frzW frzs frzsOk frzOk frzE frzA frzT frzC frzG frzH hdel cmpS eqF eqC gvs eqVs eqV decide_true resF tupA inlQ okL okGL okG nextL nextF barOpN AS.mv mvE mvG_nil mvG_cons mvH mvO AV.mv TV.mv CV.mv LV.mv famL_mv famL_purge famL_snoc famL_zero wkH wkC wkV nilA nilC AV.ok TV.ok CV.ok LV.ok okB forall_eq_or_imp forall_eq List.not_mem_nil List.mem_singleton true_or or_true or_false false_or or_self exists_prop AV.t.injEq TV.one.injEq CV.iv.injEq IV.g.injEq TV.agg.injEq List.cons.injEq repC_0 repC_1 repC_2 repC_3 rowV_len rowV_pur rowV_has rowV_frz frzC isIv_iv civ_iv rowV_all List.map_append retON AV.to TV.to CV.to
theorem fnok_46 : fnOk Try.prog 46 = true := by kernel_rfl
theorem fnok_48 : fnOk Try.prog 48 = true := by kernel_rfl
theorem fnok_49 : fnOk Try.prog 49 = true := by kernel_rfl

/-- The bytes with a record's form behind the end, its first byte not yet. -/
def ap1 (b : Nat → Int) (e r : Nat) (R : Nat → Int) (p : Nat) : Int := if p = e then 0 else if e < p ∧ p < e + (r + 3) then formF r R (p - e) else if p = e + (r + 3) then 0 else b p
def ap2 (b : Nat → Int) (e r : Nat) (R : Nat → Int) (p : Nat) : Int := if p = e then 1 else ap1 b e r R p
theorem u8_eqv {a b : Int} (h : a = b) : (IV.g (.int .u8 a)).eqv (.g (.int .u8 b)) := by rw [h]; exact IV.eqv_refl _
def lastN (e r L : Nat) : Nat := min (e + (r + 3)) (L - 1)
/-- How many sectors are written in the first go. -/
def secsN (e r L : Nat) : Nat := lastN e r L / 64 + 1 - e / 64
/-- The sectors behind an append. -/
def apD (D : Nat → Nat → Int) (b : Nat → Int) (s e r L : Nat) (R : Nat → Int) (af : Nat) : Nat → Nat → Int :=
  wrR (wrR D (ap1 b e r R) (s + e / 64) (e / 64) af (secsN e r L)) (ap2 b e r R) (s + e / 64) (e / 64) (af - secsN e r L * 64) (e / 64 + 1 - e / 64)

set_option maxRecDepth 100000 in
set_option maxHeartbeats 4000000 in
theorem append_ok (X0 X1 X2 X3 : List CV) (x0 : ∀ c, c ∈ X0 → isIv c) (x1 : ∀ c, c ∈ X1 → isIv c) (x2 : ∀ c, c ∈ X2 → isIv c) (x3 : ∀ c, c ∈ X3 → isIv c) (b : Nat → Int) (L s e : Nat) (n : Nat) (D : Nat → Nat → Int) (r : Nat) (R : Nat → Int) (hn : n ≤ 63) (af : Nat) (haf : af ≤ 9223372036854775807) (hL : L ≤ 100000) (hL64 : L % 64 = 0) (hs : s + L / 64 ≤ n) (hr : r ≤ 65535) (hfit : e + (r + 3) ≤ L) : CallsH Try.prog 40 [.one (.ptr 9 0), .agg [.iv (.g (.int .i64 (s : Int))), .slc 4 0 L 1, .iv (.g (.int .i64 (e : Int)))], .one (.iv (.lst 1 r (bytI R)))] ((some X0 :: some X1 :: some X2 :: some X3 :: some (rowV (bV (b)) L) :: some ([.iv (.g (.int .i64 (s : Int))), .slc 4 0 L 1, .iv (.g (.int .i64 (e : Int)))]) :: none :: none :: some (rowsC 32 n) :: some ([.slc 8 0 n 1, .iv (.g (.int .i64 ((af : Int))))]) :: none :: none :: none :: none :: none :: none :: none :: none :: none :: none :: none :: none :: none :: none :: none :: none :: none :: none :: none :: none :: none :: none :: (famL (fun k j => .g (.int .u8 ((D) k j))) n))) (.t (.one (.iv (.g (.bool true))))) ((some X0 :: some X1 :: some X2 :: some X3 :: some (rowV (bV (ap2 b e r R)) L) :: some ([.iv (.g (.int .i64 (s : Int))), .slc 4 0 L 1, .iv (.g (.int .i64 (e : Int)))]) :: none :: none :: some (rowsC 32 n) :: some ([.slc 8 0 n 1, .iv (.g (.int .i64 (((af - secsN e r L * 64 - (e / 64 + 1 - e / 64) * 64 : Nat) : Int))))]) :: some ([.iv (.g (.int .i64 (s : Int))), .slc 4 0 L 1, .iv (.g (.int .i64 (e : Int)))]) :: some ([.iv (.g (.int .i64 (s : Int))), .slc 4 0 L 1, .iv (.g (.int .i64 (e : Int)))]) :: some ([.iv (.g (.int .i64 (e : Int)))]) :: some ([.iv (.g (.int .i64 (e : Int)))]) :: some ([.ptr 9 0]) :: none :: none :: none :: none :: none :: none :: none :: none :: none :: none :: none :: none :: none :: none :: none :: none :: none :: (famL (fun k j => .g (.int .u8 ((apD D b s e r L R af) k j))) n))) := by
  have p0 := fun i => purge_iv i x0
  have p1 := fun i => purge_iv i x1
  have p2 := fun i => purge_iv i x2
  have p3 := fun i => purge_iv i x3
  have m0 := fun a b => mv_iv a b x0
  have m1 := fun a b => mv_iv a b x1
  have m2 := fun a b => mv_iv a b x2
  have m3 := fun a b => mv_iv a b x3
  have hz : True := trivial
  have hl1 : lastN e r L / 64 < L / 64 := by unfold lastN; omega
  have hl2 : e / 64 ≤ lastN e r L / 64 := by unfold lastN; omega
  have z1 : ((e : Int) = (L : Int)) = False := eq_false (by omega)
  have z2 : ((L : Int) - (e : Int)).toNat = L - e := by omega
  have z3 : ((e : Int) + ((r + 3 : Nat) : Int)).toNat = e + (r + 3) := by omega
  have z4 : min (r + 3) (L - e) = r + 3 := by omega
  have z6 : min (L - e) (r + 3) = r + 3 := by omega
  have z5 : min ((e : Int) + ((r + 3 : Nat) : Int)) ((L : Int) - 1) = ((lastN e r L : Nat) : Int) := by unfold lastN; omega
  have z7 : min e L = e := by omega
  have z8 : e + (r + 3) + (L - (e + (r + 3))) = L := by omega
  have z9 : e + 1 + (L - (e + 1)) = L := by omega
  have z10 : min (e + (r + 3)) L = e + (r + 3) := by omega
  refine CallsH_ofG Try.func40 rfl (by rw [Try.ntmps40]; simp) fun g ls fr hG hFr => ?_
  obtain ⟨f0, d0⟩ := hFr fr (Nat.le_refl _)
  obtain ⟨f1, d1⟩ := hFr (fr + 1) (by omega)
  obtain ⟨f2, d2⟩ := hFr (fr + 2) (by omega)

  simp only [Try.ntmps40, argEnv, Nat.zero_add, Nat.reduceAdd]
  repeat' (first
    | (with_reducible refine AW_litG (c := Code.region 9 _ false) [0, 4, 8] (some X0 :: some X1 :: some X2 :: some X3 :: some (rowV (bV (ap1 b e r R)) L) :: some ([.iv (.g (.int .i64 (s : Int))), .slc 4 0 L 1, .iv (.g (.int .i64 (e : Int)))]) :: none :: none :: some (rowsC 32 n) :: some ([.slc 8 0 n 1, .iv (.g (.int .i64 ((af : Int))))]) :: some ([.iv (.g (.int .i64 (s : Int))), .slc 4 0 L 1, .iv (.g (.int .i64 (e : Int)))]) :: none :: none :: none :: none :: none :: none :: none :: none :: none :: none :: none :: none :: none :: none :: none :: none :: none :: none :: none :: none :: none :: (famL (fun k j => .g (.int .u8 ((D) k j))) n)) (hG.mono (subH_spec (by simp only [subH]; first | done | exact subH_fam n))) ?_ ?_ (AW_regionP 9 [0, 4, 8] ?_))
    | (with_reducible refine AW_litG (c := Code.region 10 _ false) [0, 4] (some X0 :: some X1 :: some X2 :: some X3 :: some (rowV (bV (ap1 b e r R)) L) :: some ([.iv (.g (.int .i64 (s : Int))), .slc 4 0 L 1, .iv (.g (.int .i64 (e : Int)))]) :: none :: none :: some (rowsC 32 n) :: some ([.slc 8 0 n 1, .iv (.g (.int .i64 (((af - secsN e r L * 64 : Nat) : Int))))]) :: some ([.iv (.g (.int .i64 (s : Int))), .slc 4 0 L 1, .iv (.g (.int .i64 (e : Int)))]) :: none :: none :: none :: none :: none :: none :: none :: none :: none :: none :: none :: none :: none :: none :: none :: none :: none :: none :: none :: none :: none :: (famL (fun k j => .g (.int .u8 ((wrR D (ap1 b e r R) (s + e / 64) (e / 64) af (secsN e r L)) k j))) n)) (hG.mono (subH_spec (by simp only [subH]; first | done | exact subH_fam n))) ?_ ?_ (AW_regionP 10 [0, 4] ?_))
    | (with_reducible refine AW_litG (c := Code.region 11 _ false) [0, 4] (some X0 :: some X1 :: some X2 :: some X3 :: some (rowV (bV (ap2 b e r R)) L) :: some ([.iv (.g (.int .i64 (s : Int))), .slc 4 0 L 1, .iv (.g (.int .i64 (e : Int)))]) :: none :: none :: some (rowsC 32 n) :: some ([.slc 8 0 n 1, .iv (.g (.int .i64 (((af - secsN e r L * 64 : Nat) : Int))))]) :: some ([.iv (.g (.int .i64 (s : Int))), .slc 4 0 L 1, .iv (.g (.int .i64 (e : Int)))]) :: none :: none :: none :: none :: none :: none :: none :: none :: none :: none :: none :: none :: none :: none :: none :: none :: none :: none :: none :: none :: none :: (famL (fun k j => .g (.int .u8 ((wrR D (ap1 b e r R) (s + e / 64) (e / 64) af (secsN e r L)) k j))) n)) (hG.mono (subH_spec (by simp only [subH]; first | done | exact subH_fam n))) ?_ ?_ (AW_regionP 11 [0, 4] ?_))
    | (with_reducible refine AW_seq_k fun K hK => ?_)
    | ((first | (with_reducible refine And.intro ?_ ?_) | (with_reducible refine Need.mk ?_)); focus (first | exact True.intro | (with_reducible assumption) | omega | (refine ⟨?_, ?_⟩ <;> omega) | (intro _; first | exact True.intro | (with_reducible assumption) | omega) | (intros; (repeat' (first | exact True.intro | omega | (with_reducible assumption) | (with_reducible refine And.intro ?_ ?_))); done) | (simp (disch := omega) only [Bool.and_eq_true, Bool.or_eq_true, decide_eq_true_eq, bne_iff_ne, ne_eq] at *; first | done | omega | (intros; omega)) | (simp; done) | (simp; omega) | (simp +contextual; done) | (intro h; rw [h]; rfl) | (intros; simp_all; done)))
    | (with_reducible refine AW_skip ?_)
    | (with_reducible refine AW_exit ?_)
    | (with_reducible refine AW_ret ?_)
    | (with_reducible refine retK_n ?_)
    | (with_reducible refine retK_n' ?_)
    | (with_reducible refine retH_n rfl rfl rfl ?_)
    | (with_reducible refine retH_n' rfl rfl rfl ?_)
    | (with_reducible refine retO_n ?_ ?_)
    | (with_reducible refine retO_n' ?_ ?_)
    | (with_reducible refine AW_condI ?_)
    | (with_reducible refine AW_block ?_)
    | ((with_reducible refine condN_t ?_ ?_) <;> (intro hc; (try simp only [Bool.and_eq_true, Bool.or_eq_true, Bool.not_eq_true', Bool.and_eq_false_iff, Bool.or_eq_false_iff, decide_eq_true_eq, decide_eq_false_iff_not, bne_iff_ne, beq_iff_eq, reduceCtorEq, bne_eq_false_iff_eq, beq_eq_false_iff_ne, Bool.not_eq_false', Int.not_le, Int.not_lt, Bool.not_not] at hc); ((try (have y1 : e + (r + 3) + 1 + (L - (e + (r + 3) + 1)) = L := (by omega); clear hz; have hz := y1))); (try (exfalso; first | contradiction | omega))))
    | (with_reducible refine AW_regionP 0 [0, 1, 2] ?_)
    | (with_reducible refine AW_regionP 1 [0, 2, 3, 4, 5] ?_)
    | (with_reducible refine AW_regionP 2 [0, 4, 7] ?_)
    | (with_reducible refine AW_regionP 3 [0, 4, 7, 8] ?_)
    | (with_reducible refine AW_regionP 4 [] ?_)
    | (with_reducible refine AW_regionP 5 [0, 4, 7, 8] ?_)
    | (with_reducible refine AW_regionP 6 [0, 4, 8] ?_)
    | (with_reducible refine AW_regionP 7 [0, 4, 8] ?_)
    | (with_reducible refine AW_regionP 8 [0, 4, 8] ?_)
    | (with_reducible refine AW_regionP 9 [0, 4, 8] ?_)
    | (with_reducible refine AW_regionP 10 [0, 4] ?_)
    | (with_reducible refine AW_regionP 11 [0, 4] ?_)
    | (with_reducible refine AW_regionP 12 [] ?_)
    | (refine callN_q (k := 46) fnok_46 (form_p r R (by omega)) ?_ ?_)
    | (refine callN_hpq (k := 48) fnok_48 ((by have h := write11_h X0 X1 X2 X3 x0 x1 x2 x3 (ap1 b e r R) L (s : Int) (e : Int) s e (lastN e r L) n (fun _ => 0) (D) hn (af) (by omega) (by omega) (by omega) hL (by omega); exact h)) ?_ ?_)
    | (refine callN_hpq (k := 48) fnok_48 ((by have h := write11_h X0 X1 X2 X3 x0 x1 x2 x3 (ap2 b e r R) L (s : Int) (e : Int) s e (e) n (fun _ => 0) (wrR D (ap1 b e r R) (s + e / 64) (e / 64) af (secsN e r L)) hn (af - secsN e r L * 64) (by omega) (by omega) (by omega) hL (by omega); exact h)) ?_ ?_)
    | ((with_reducible refine Told.mk ?_); simp only [go_sem, reduceIte, reduceCtorEq, Nat.reduceAdd, Nat.reduceLT, Nat.reduceLeDiff, Nat.reduceEqDiff, Nat.reduceMul, Nat.reduceSub, Nat.reduceBEq, bytI, rowsI, p0, p1, p2, p3, maxLen, rowV_take, rowV_drop, rowV_zero, rowV_app, Nat.zero_min, Nat.min_self, z1, z2, z3, z4, z5, z6, z7, z8, z9, z10, rowV_app1, lstC_row, hz, f0, d0, f1, d1, f2, d2, Nat.add_eq_left, Nat.left_eq_add] <;> (first | exact True.intro | (((try simp (disch := omega) only [seaWrap, Int.natCast_add, Int.cast_ofNat_Int, and_true, true_and, and_self]); (repeat' (first | exact True.intro | omega | rfl | (with_reducible assumption) | (with_reducible refine And.intro ?_ ?_) | (exact all_succ (by assumption) (by assumption)) | (exact wkC_eq rfl (by assumption)) | (exact wkC_same _ _) | (exact wkH_famR _ _) | (exact wkC_rows fun k hk => okB_fam hk) | (((refine wkC_row _ fun j hj => ?_); (rcases (by omega : j < e ∨ j = e ∨ (e < j ∧ j < e + (r + 3)) ∨ j = e + (r + 3) ∨ e + (r + 3) < j) with h|h|h|h|h) <;> (first | (exfalso; omega) | (simp (disch := omega) only [if_pos, if_neg, ap1, ap2, bV]; first | exact u8_eqv rfl | exact u8_eqv (congrArg b (by omega)) | exact u8_eqv (congrArg (formF r R) (by omega)) | exact IV.eqv_refl _)))))); done)) | (refine Stuck.out ?_)))
    | ((fail_if_success (with_reducible show AW _ _ _ _)); simp (maxSteps := 2000000) only [go_sem, reduceIte, reduceCtorEq, Nat.reduceAdd, Nat.reduceLT, Nat.reduceLeDiff, Nat.reduceEqDiff, Nat.reduceMul, Nat.reduceSub, Nat.reduceBEq, Try.f40, Try.f49, fnok_46, of_55_2, ty_3, le_25, of_55_1, ty_25, sl_25, ar_25, ty_5, ty_55, fnok_49, fnok_48, bytI, rowsI, p0, p1, p2, p3, maxLen, rowV_take, rowV_drop, rowV_zero, rowV_app, Nat.zero_min, Nat.min_self, z1, z2, z3, z4, z5, z6, z7, z8, z9, z10, rowV_app1, lstC_row, hz, f0, d0, f1, d1, f2, d2, Nat.add_eq_left, Nat.left_eq_add])
    | ((fail_if_success (with_reducible show AW _ _ _ _)); simp (disch := omega) only [seaWrap, seaDiv, seaMod])
    | ((refine callN_i (k := 49) Try.func49 rfl fnok_49 (by rw [Try.ntmps49]; simp) ?_ ?_ (fun K hK => ?_)); (focus (first | exact True.intro | (with_reducible assumption) | omega | (refine ⟨?_, ?_⟩ <;> omega) | (intro _; first | exact True.intro | (with_reducible assumption) | omega) | (intros; (repeat' (first | exact True.intro | omega | (with_reducible assumption) | (with_reducible refine And.intro ?_ ?_))); done) | (simp (disch := omega) only [Bool.and_eq_true, Bool.or_eq_true, decide_eq_true_eq, bne_iff_ne, ne_eq] at *; first | done | omega | (intros; omega)) | (simp; done) | (simp; omega) | (simp +contextual; done) | (intro h; rw [h]; rfl) | (intros; simp_all; done))); (focus (first | (simp [lsF]; done) | assumption | exact ⟨Nat.ne_of_lt (Nat.lt_succ_self _), by assumption⟩)); simp only [Try.ntmps49, List.map_cons, List.map_nil, List.nil_append, List.cons_append, List.append_nil, LV.tv, argEnv, Nat.zero_add, Nat.reduceAdd])
    | ((with_reducible refine hK _ ?_); clear hK K)
    | (with_reducible apply_assumption -exfalso only [*]))

set_option maxRecDepth 100000 in
set_option maxHeartbeats 4000000 in
theorem append_no (X0 X1 X2 X3 : List CV) (x0 : ∀ c, c ∈ X0 → isIv c) (x1 : ∀ c, c ∈ X1 → isIv c) (x2 : ∀ c, c ∈ X2 → isIv c) (x3 : ∀ c, c ∈ X3 → isIv c) (b : Nat → Int) (L s e : Nat) (n : Nat) (D : Nat → Nat → Int) (r : Nat) (R : Nat → Int) (hn : n ≤ 63) (af : Nat) (haf : af ≤ 9223372036854775807) (hL : L ≤ 100000) (hL64 : L % 64 = 0) (hs : s + L / 64 ≤ n) (hr : r ≤ 65535) (hno : ¬ e + (r + 3) ≤ L) (he : e ≤ L) : CallsH Try.prog 40 [.one (.ptr 9 0), .agg [.iv (.g (.int .i64 (s : Int))), .slc 4 0 L 1, .iv (.g (.int .i64 (e : Int)))], .one (.iv (.lst 1 r (bytI R)))] ((some X0 :: some X1 :: some X2 :: some X3 :: some (rowV (bV (b)) L) :: some ([.iv (.g (.int .i64 (s : Int))), .slc 4 0 L 1, .iv (.g (.int .i64 (e : Int)))]) :: none :: none :: some (rowsC 32 n) :: some ([.slc 8 0 n 1, .iv (.g (.int .i64 ((af : Int))))]) :: none :: none :: none :: none :: none :: none :: none :: none :: none :: none :: none :: none :: none :: none :: none :: none :: none :: none :: none :: none :: none :: none :: (famL (fun k j => .g (.int .u8 ((D) k j))) n))) (.t (.one (.iv (.g (.bool false))))) ((some X0 :: some X1 :: some X2 :: some X3 :: some (rowV (bV (b)) L) :: some ([.iv (.g (.int .i64 (s : Int))), .slc 4 0 L 1, .iv (.g (.int .i64 (e : Int)))]) :: none :: none :: some (rowsC 32 n) :: some ([.slc 8 0 n 1, .iv (.g (.int .i64 ((af : Int))))]) :: some ([.iv (.g (.int .i64 (s : Int))), .slc 4 0 L 1, .iv (.g (.int .i64 (e : Int)))]) :: none :: none :: none :: none :: none :: none :: none :: none :: none :: none :: none :: none :: none :: none :: none :: none :: none :: none :: none :: none :: none :: (famL (fun k j => .g (.int .u8 ((D) k j))) n))) := by
  have p0 := fun i => purge_iv i x0
  have p1 := fun i => purge_iv i x1
  have p2 := fun i => purge_iv i x2
  have p3 := fun i => purge_iv i x3
  have m0 := fun a b => mv_iv a b x0
  have m1 := fun a b => mv_iv a b x1
  have m2 := fun a b => mv_iv a b x2
  have m3 := fun a b => mv_iv a b x3
  refine CallsH_ofG Try.func40 rfl (by rw [Try.ntmps40]; simp) fun g ls fr hG hFr => ?_
  obtain ⟨f0, d0⟩ := hFr fr (Nat.le_refl _)
  obtain ⟨f1, d1⟩ := hFr (fr + 1) (by omega)
  obtain ⟨f2, d2⟩ := hFr (fr + 2) (by omega)

  simp only [Try.ntmps40, argEnv, Nat.zero_add, Nat.reduceAdd]
  repeat' (first
    | (with_reducible refine AW_seq_k fun K hK => ?_)
    | ((first | (with_reducible refine And.intro ?_ ?_) | (with_reducible refine Need.mk ?_)); focus (first | exact True.intro | (with_reducible assumption) | omega | (refine ⟨?_, ?_⟩ <;> omega) | (intro _; first | exact True.intro | (with_reducible assumption) | omega) | (intros; (repeat' (first | exact True.intro | omega | (with_reducible assumption) | (with_reducible refine And.intro ?_ ?_))); done) | (simp (disch := omega) only [Bool.and_eq_true, Bool.or_eq_true, decide_eq_true_eq, bne_iff_ne, ne_eq] at *; first | done | omega | (intros; omega)) | (simp; done) | (simp; omega) | (simp +contextual; done) | (intro h; rw [h]; rfl) | (intros; simp_all; done)))
    | (with_reducible refine AW_skip ?_)
    | (with_reducible refine AW_exit ?_)
    | (with_reducible refine AW_ret ?_)
    | (with_reducible refine retK_n ?_)
    | (with_reducible refine retK_n' ?_)
    | (with_reducible refine retH_n rfl rfl rfl ?_)
    | (with_reducible refine retH_n' rfl rfl rfl ?_)
    | (with_reducible refine retO_n ?_ ?_)
    | (with_reducible refine retO_n' ?_ ?_)
    | (with_reducible refine AW_condI ?_)
    | (with_reducible refine AW_block ?_)
    | ((with_reducible refine condN_t ?_ ?_) <;> (intro hc; (try simp only [Bool.and_eq_true, Bool.or_eq_true, Bool.not_eq_true', Bool.and_eq_false_iff, Bool.or_eq_false_iff, decide_eq_true_eq, decide_eq_false_iff_not, bne_iff_ne, beq_iff_eq, reduceCtorEq, bne_eq_false_iff_eq, beq_eq_false_iff_ne, Bool.not_eq_false', Int.not_le, Int.not_lt, Bool.not_not] at hc); (try (exfalso; first | contradiction | omega))))
    | (with_reducible refine AW_regionP 0 [0, 1, 2] ?_)
    | (with_reducible refine AW_regionP 1 [0, 2, 4] ?_)
    | (with_reducible refine AW_regionP 2 [0, 4, 7] ?_)
    | (with_reducible refine AW_regionP 3 [0, 4, 7, 8] ?_)
    | (with_reducible refine AW_regionP 4 [] ?_)
    | (with_reducible refine AW_regionP 5 [0, 4, 7, 8] ?_)
    | (with_reducible refine AW_regionP 6 [0, 4, 8] ?_)
    | (with_reducible refine AW_regionP 7 [0, 4, 8] ?_)
    | (with_reducible refine AW_regionP 8 [0, 4, 8] ?_)
    | (with_reducible refine AW_regionP 9 [0, 4, 8] ?_)
    | (with_reducible refine AW_regionP 10 [0, 4] ?_)
    | (with_reducible refine AW_regionP 11 [0, 4] ?_)
    | (with_reducible refine AW_regionP 12 [] ?_)
    | (refine callN_q (k := 46) fnok_46 (form_p r R (by omega)) ?_ ?_)
    | ((fail_if_success (with_reducible show AW _ _ _ _)); simp (maxSteps := 2000000) only [go_sem, reduceIte, reduceCtorEq, Nat.reduceAdd, Nat.reduceLT, Nat.reduceLeDiff, Nat.reduceEqDiff, Nat.reduceMul, Nat.reduceSub, Nat.reduceBEq, Try.f40, fnok_46, of_55_2, ty_3, le_25, of_55_1, ty_25, sl_25, ar_25, ty_5, ty_55, fnok_49, fnok_48, bytI, rowsI, p0, p1, p2, p3, maxLen, rowV_take, rowV_drop, rowV_zero, f0, d0, f1, d1, f2, d2, Nat.add_eq_left, Nat.left_eq_add])
    | ((fail_if_success (with_reducible show AW _ _ _ _)); simp (disch := omega) only [seaWrap, seaDiv, seaMod])
    | ((with_reducible refine hK _ ?_); clear hK K))

end Go.Proofs.Ytifoncmlelinjaa
