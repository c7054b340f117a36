/- J: walks on abstract states. -/
import Derived.Test.YtifoncmlelinjaaI
set_option linter.unusedVariables false
set_option linter.unusedSimpArgs false
namespace Go.Proofs.Ytifoncmlelinjaa
open Go.RowKit Go.Sea
attribute [local go_sem] callK_N gf gk gdrop lkL setL lsF ltAll rdyL bodyF roundQ roundS loopQ loopS jumpOf inLs yV yA bAV zipPut purgeG_nil purgeG_cons List.tail_cons Option.isNone_none Option.isNone_some callGK_f callDK_f callDGK_f retN retHN blockA arun_nil arun_plain arun_guard plainF guardF guardB arunD_nil arunD_plain arunD_guard plainDF guardDF guardDB AS.ent Eff.noApp Eff.tgt ftF AV.refs TV.refs CV.refs LV.refs Op.operands Call.operands List.append_toArray List.push_toArray List.flatMap_cons List.flatMap_nil List.toList_toArray Option.toArray nidF nidA List.reverse_cons List.reverse_nil opF AS.ev constA lk AS.get AV.tv AV.nd AS.eff AS.put argEnv PT.tv PV.av AV.mbOf hset hget TV.cells dstOk thenA gB isB toB TV.bool? TV.int? intF loadF storeF fieldF indexF lenF sliceF optI appF minmaxF ipCells fillF partsF lvsF TV.lv LV.tv purgeE purgeC purgeH AV.purge CV.purge AV.has TV.has CV.has LV.has calleeF argsF tvsF toPT toIV toIVs toPTs toPV iA bA List.map_cons List.map_nil List.length_nil List.length_cons List.getElem?_cons_zero List.getElem?_cons_succ List.getElem?_nil Option.getD_some Option.getD_none Option.bind_some Option.bind_none List.take_succ_cons List.take_zero List.drop_succ_cons List.drop_zero List.take_nil List.drop_nil List.cons_append List.nil_append List.append_nil List.getD_cons_zero List.getD_cons_succ Option.map_some Option.map_none Option.isSome_some Option.isSome_none List.size_toArray List.any_cons List.any_nil List.mem_cons if_true if_false ite_true ite_false cond_true cond_false Nat.zero_add Nat.add_zero Nat.sub_zero Nat.le_refl Nat.zero_mul Nat.mul_zero Nat.one_mul Nat.mul_one Int.toNat_zero Int.toNat_natCast Bool.or_false Bool.false_or Bool.or_true Bool.true_or Bool.and_true Bool.true_and Bool.and_false Bool.false_and beq_self_eq_true beq_true beq_false Bool.not_true Bool.not_false and_true true_and and_false false_and and_self imp_self Bool.cond_false_right Bool.cond_true_left implies_true forall_const true_implies false_implies Option.some.injEq Prod.mk.injEq ne_eq not_false_eq_true not_true_eq_false eq_self Nat.lt_irrefl Nat.not_lt_zero op2F ncF slice3F offF slArrF copyF clearF toArrF callDK_t calleeT eqN barOp boF seaMin seaMax seaNat1 seaNat2 Value.bool.injEq Value.int.injEq srcF lstC TV.dp IV.eqv PT.eqv PV.eqv All2 keepE hupd callZ_N AS.frz AS.frzW frzs frzsOk frzOk frzE frzA frzT frzC frzG frzH hdel cmpS eqF eqC gvs eqVs eqV decide_true resF tupA inlQ okL okGL okG nextL nextF barOpN AS.mv mvE mvG_nil mvG_cons mvH mvO AV.mv TV.mv CV.mv LV.mv famL_mv famL_purge famL_snoc famL_zero wkH wkC wkV nilA nilC AV.ok TV.ok CV.ok LV.ok okB forall_eq_or_imp forall_eq List.not_mem_nil List.mem_singleton true_or or_true or_false false_or or_self exists_prop AV.t.injEq TV.one.injEq CV.iv.injEq IV.g.injEq TV.agg.injEq List.cons.injEq repC_0 repC_1 repC_2 repC_3 rowV_len rowV_pur rowV_has rowV_frz frzC isIv_iv civ_iv rowV_all List.map_append retON AV.to TV.to CV.to
theorem ar_80 : arD Try.prog 80 = some (64, 1) := by kernel_rfl
theorem fnok_59 : fnOk Try.prog 59 = true := by kernel_rfl
theorem of_55_0 : offOf Try.prog 55 0 = some 0 := by kernel_rfl
theorem of_65_0 : offOf Try.prog 65 0 = some 0 := by kernel_rfl
theorem of_65_1 : offOf Try.prog 65 1 = some 1 := by kernel_rfl
theorem sl_80 : slD Try.prog 80 = none := by kernel_rfl
theorem ty_61 : tyD Try.prog 61 = some (false, 1) := by kernel_rfl
theorem ty_80 : tyD Try.prog 80 = some (true, 64) := by kernel_rfl
theorem zc_80 : zeroC Try.prog 80 = some (secC fun _ => 0) := by kernel_rfl

/-- The sectors when q of them, from the sector s on, were written, with the bytes B from p on, and the power failed behind af bytes. -/
def wrR (D : Nat → Nat → Int) (B : Nat → Int) (s p af q : Nat) (i j : Nat) : Int := if s ≤ i ∧ i < s + q ∧ (i - s) * 64 + j < af then B (p * 64 + (i - s) * 64 + j) else D i j
theorem wr0 (D : Nat → Nat → Int) (B : Nat → Int) (s p af i j : Nat) : (IV.g (.int .u8 (D i j))).eqv (.g (.int .u8 (wrR D B s p af 0 i j))) := by
  unfold wrR; rw [if_neg (by omega)]; exact IV.eqv_refl _
theorem secC_row (f : Nat → Int) : secC f = rowV (bV f) 64 := rfl
def rowL (f : Nat → IV) (n : Nat) : List IV := (List.range n).map f
theorem toIVs_row (H : Hp) (f : Nat → IV) (n : Nat) : toIVs H (rowV f n) = some (True, rowL f n, false) := by
  have key : ∀ l : List Nat, toIVs H (l.map fun j => .iv (f j)) = some (True, l.map f, false) := fun l => by
    induction l with
    | nil => rfl
    | cons x l ih => simp only [List.map_cons, toIVs, toIV, ih, and_self, Bool.or_self]
  exact key _
theorem wr_facts (D : Nat → Nat → Int) (Y : Nat → Int) (s a af n q w i : Nat) (h : i < n) (hi : i = s + (a / 64 + q)) (hw : w = min (af - q * 64) 64) :
    (rowsC 32 n).getD ((s : Int) + ((a / 64 + q : Nat) : Int)).toNat .any = .slc (i + 32) 0 64 1 ∧ (min ((af - q * 64 : Nat) : Int) 64).toNat = w ∧ min w 64 = w ∧ min 64 w = w ∧ w + (64 - w) = 64 ∧
    (famL (fun k j => .g (.int .u8 (wrR D Y (s + a / 64) (a / 64) af q k j))) n)[i]? = some (some (rowV (fun j => .g (.int .u8 (wrR D Y (s + a / 64) (a / 64) af q (i) j))) 64)) ∧
    ∀ g, hset (famL (fun k j => .g (.int .u8 (wrR D Y (s + a / 64) (a / 64) af q k j))) n) (i) (rowV g 64) = famL (updF (fun k j => .g (.int .u8 (wrR D Y (s + a / 64) (a / 64) af q k j))) (i) g) n := by
  refine ⟨?_, by omega, by omega, by omega, by omega, famL_at h, fun g => famL_set h g⟩
  rw [show ((s : Int) + ((a / 64 + q : Nat) : Int)).toNat = i by omega]
  exact rowsC_get h
theorem wrS {D : Nat → Nat → Int} {Y : Nat → Int} {s a af q w i k j : Nat} (hi : i = s + (a / 64 + q)) (hw : w = min (af - q * 64) 64) (hj : j < 64) :
    (updF (fun k j => .g (.int .u8 (wrR D Y (s + a / 64) (a / 64) af q k j))) i (fun j => if j < w then bV Y ((a / 64 + q) * 64 + j) else .g (.int .u8 (wrR D Y (s + a / 64) (a / 64) af q i (w + (j - w))))) k j).eqv (.g (.int .u8 (wrR D Y (s + a / 64) (a / 64) af (q + 1) k j))) := by
  generalize a / 64 = p at *
  have e : updF (fun k j => .g (.int .u8 (wrR D Y (s + p) p af q k j))) i (fun j => if j < w then bV Y ((p + q) * 64 + j) else .g (.int .u8 (wrR D Y (s + p) p af q i (w + (j - w))))) k j = .g (.int .u8 (wrR D Y (s + p) p af (q + 1) k j)) := by
    unfold updF
    by_cases hk : k = i
    · rw [if_pos hk]
      subst hk
      by_cases h : j < w
      · simp only [if_pos h, bV, wrR]
        rw [if_pos (by omega), show (p + q) * 64 + j = p * 64 + (k - (s + p)) * 64 + j by omega]
      · simp only [if_neg h]
        unfold wrR
        rw [if_neg (by omega), if_neg (by omega), show w + (j - w) = j by omega]
    · rw [if_neg hk]
      unfold wrR
      dsimp only
      by_cases h : s + p ≤ k ∧ k < s + p + q ∧ (k - (s + p)) * 64 + j < af
      · rw [if_pos h, if_pos (by omega)]
      · rw [if_neg h, if_neg (by omega)]
  rw [e]
  exact IV.eqv_refl _
theorem hget_32 (a0 a1 a2 a3 a4 a5 a6 a7 a8 a9 a10 a11 a12 a13 a14 a15 a16 a17 a18 a19 a20 a21 a22 a23 a24 a25 a26 a27 a28 a29 a30 a31 : Option (List CV)) (l : List (Option (List CV))) (i : Nat) : hget (a0 :: a1 :: a2 :: a3 :: a4 :: a5 :: a6 :: a7 :: a8 :: a9 :: a10 :: a11 :: a12 :: a13 :: a14 :: a15 :: a16 :: a17 :: a18 :: a19 :: a20 :: a21 :: a22 :: a23 :: a24 :: a25 :: a26 :: a27 :: a28 :: a29 :: a30 :: a31 :: l) (i + 32) = hget l i := rfl
theorem hset_32 (a0 a1 a2 a3 a4 a5 a6 a7 a8 a9 a10 a11 a12 a13 a14 a15 a16 a17 a18 a19 a20 a21 a22 a23 a24 a25 a26 a27 a28 a29 a30 a31 : Option (List CV)) (l : List (Option (List CV))) (i : Nat) (x : List CV) : hset (a0 :: a1 :: a2 :: a3 :: a4 :: a5 :: a6 :: a7 :: a8 :: a9 :: a10 :: a11 :: a12 :: a13 :: a14 :: a15 :: a16 :: a17 :: a18 :: a19 :: a20 :: a21 :: a22 :: a23 :: a24 :: a25 :: a26 :: a27 :: a28 :: a29 :: a30 :: a31 :: l) (i + 32) x = a0 :: a1 :: a2 :: a3 :: a4 :: a5 :: a6 :: a7 :: a8 :: a9 :: a10 :: a11 :: a12 :: a13 :: a14 :: a15 :: a16 :: a17 :: a18 :: a19 :: a20 :: a21 :: a22 :: a23 :: a24 :: a25 :: a26 :: a27 :: a28 :: a29 :: a30 :: a31 :: hset l i x := rfl

set_option maxRecDepth 100000 in
set_option maxHeartbeats 4000000 in
theorem write11_h (X0 X1 X2 X3 : List CV) (x0 : ∀ c, c ∈ X0 → isIv c) (x1 : ∀ c, c ∈ X1 → isIv c) (x2 : ∀ c, c ∈ X2 → isIv c) (x3 : ∀ c, c ∈ X3 → isIv c) (Y : Nat → Int) (L : Nat) (fi en : Int) (s a b : Nat) (n : Nat) (m : Nat → Nat) (D : Nat → Nat → Int) (hn : n ≤ 63) (af : Nat) (haf : af ≤ 9223372036854775807) (hab : a / 64 ≤ b / 64) (hb : (b / 64 + 1) * 64 ≤ L) (hL : L ≤ 100000) (hs : s + b / 64 < n) : CallsH Try.prog 48 [.one (.ptr 9 0), .one (.fn (.func 59) [] [.ptr 12 0, .ptr 13 0, .ptr 11 0])] ((some X0 :: some X1 :: some X2 :: some X3 :: some (rowV (bV Y) L) :: some ([.iv (.g (.int .i64 fi)), .slc 4 0 L 1, .iv (.g (.int .i64 en))]) :: none :: none :: some (rowsC 32 n) :: some ([.slc 8 0 n 1, .iv (.g (.int .i64 ((af : Int))))]) :: some ([.iv (.g (.int .i64 (s : Int))), .slc 4 0 L 1, .iv (.g (.int .i64 en))]) :: some ([.iv (.g (.int .i64 (s : Int))), .slc 4 0 L 1, .iv (.g (.int .i64 en))]) :: some ([.iv (.g (.int .i64 (a : Int)))]) :: some ([.iv (.g (.int .i64 (b : Int)))]) :: none :: none :: none :: none :: none :: none :: none :: none :: none :: none :: none :: none :: none :: none :: none :: none :: none :: none :: (famL (fun k j => .g (.int .u8 ((D) k j))) n))) (.tup []) ((some X0 :: some X1 :: some X2 :: some X3 :: some (rowV (bV Y) L) :: some ([.iv (.g (.int .i64 fi)), .slc 4 0 L 1, .iv (.g (.int .i64 en))]) :: none :: none :: some (rowsC 32 n) :: some ([.slc 8 0 n 1, .iv (.g (.int .i64 (((af - (b / 64 + 1 - a / 64) * 64 : Nat) : Int))))]) :: some ([.iv (.g (.int .i64 (s : Int))), .slc 4 0 L 1, .iv (.g (.int .i64 en))]) :: some ([.iv (.g (.int .i64 (s : Int))), .slc 4 0 L 1, .iv (.g (.int .i64 en))]) :: some ([.iv (.g (.int .i64 (a : Int)))]) :: some ([.iv (.g (.int .i64 (b : Int)))]) :: some ([.ptr 9 0]) :: none :: none :: none :: none :: none :: none :: none :: none :: none :: none :: none :: none :: none :: none :: none :: none :: none :: (famL (fun k j => .g (.int .u8 ((wrR D Y (s + a / 64) (a / 64) af (b / 64 + 1 - a / 64)) k j))) n))) := by
  have p0 := fun i => purge_iv i x0
  have p1 := fun i => purge_iv i x1
  have p2 := fun i => purge_iv i x2
  have p3 := fun i => purge_iv i x3
  have m0 := fun a b => mv_iv a b x0
  have m1 := fun a b => mv_iv a b x1
  have m2 := fun a b => mv_iv a b x2
  have m3 := fun a b => mv_iv a b x3
  have hz : True := trivial
  refine CallsH_ofG Try.func48 rfl (by rw [Try.ntmps48]; simp) fun g ls fr hG hFr => ?_
  obtain ⟨f0, d0⟩ := hFr fr (Nat.le_refl _)
  obtain ⟨f1, d1⟩ := hFr (fr + 1) (by omega)
  obtain ⟨f2, d2⟩ := hFr (fr + 2) (by omega)

  simp only [Try.ntmps48, argEnv, Nat.zero_add, Nat.reduceAdd]
  repeat' (first
    | (with_reducible refine AW_seq_k fun K hK => ?_)
    | ((first | (with_reducible refine And.intro ?_ ?_) | (with_reducible refine Need.mk ?_)); focus (first | exact True.intro | (with_reducible assumption) | omega | (refine ⟨?_, ?_⟩ <;> omega) | (intro _; first | exact True.intro | (with_reducible assumption) | omega) | (intros; (repeat' (first | exact True.intro | omega | (with_reducible assumption) | (with_reducible refine And.intro ?_ ?_))); done) | (simp (disch := omega) only [Bool.and_eq_true, Bool.or_eq_true, decide_eq_true_eq, bne_iff_ne, ne_eq] at *; first | done | omega | (intros; omega)) | (simp; done) | (simp; omega) | (simp +contextual; done) | (intro h; rw [h]; rfl) | (intros; simp_all; done)))
    | (with_reducible refine AW_skip ?_)
    | (with_reducible refine AW_exit ?_)
    | (with_reducible refine AW_ret ?_)
    | (with_reducible refine retK_n ?_)
    | (with_reducible refine retK_n' ?_)
    | (with_reducible refine retH_n rfl rfl rfl ?_)
    | (with_reducible refine retH_n' rfl rfl rfl ?_)
    | (with_reducible refine retO_n ?_ ?_)
    | (with_reducible refine retO_n' ?_ ?_)
    | (with_reducible refine AW_condI ?_)
    | (with_reducible refine AW_block ?_)
    | ((with_reducible refine condN_t ?_ ?_) <;> (intro hc; (try simp only [Bool.and_eq_true, Bool.or_eq_true, Bool.not_eq_true', Bool.and_eq_false_iff, Bool.or_eq_false_iff, decide_eq_true_eq, decide_eq_false_iff_not, bne_iff_ne, beq_iff_eq, reduceCtorEq, bne_eq_false_iff_eq, beq_eq_false_iff_ne, Bool.not_eq_false', Int.not_le, Int.not_lt, Bool.not_not] at hc); ((try (have e0 : q = b / 64 + 1 - a / 64 := (by omega); subst e0)); (try (have hk : a / 64 + q ≤ b / 64 := (by omega); obtain ⟨i, hi⟩ : ∃ i, i = s + (a / 64 + q) := ⟨_, rfl⟩; obtain ⟨w, hw⟩ : ∃ w, w = min (af - q * 64) 64 := ⟨_, rfl⟩; have hz1 : (((a / 64 + q : Nat) : Int) * 64 = (L : Int)) = False := eq_false (by omega); have hz2 : (((a / 64 + q : Nat) : Int) * 64).toNat = (a / 64 + q) * 64 := (by omega); have hz3 : ((L : Int) - ((a / 64 + q : Nat) : Int) * 64).toNat = L - (a / 64 + q) * 64 := (by omega); have hz4 : min (L - (a / 64 + q) * 64) 64 = 64 := (by omega); clear hz; have hz := And.intro hz1 (And.intro hz2 (And.intro hz3 (And.intro hz4 (And.intro ((Nat.min_comm _ _).trans hz4) (wr_facts D Y s a af n q w i (by omega) hi hw)))))))); (try (exfalso; first | contradiction | omega))))
    | (with_reducible refine AW_regionP 0 [0, 1, 2, 3, 8, 9] ?_)
    | (with_reducible refine AW_regionP 1 [0, 1, 2, 3, 5, 8, 9] ?_)
    | (with_reducible refine AW_regionP 2 [0, 2, 3, 5, 8, 9] ?_)
    | (with_reducible refine AW_regionP 3 [0, 2, 3, 4, 5, 8, 9] ?_)
    | (with_reducible refine AW_regionP 4 [2, 4, 5, 8, 9] ?_)
    | ((with_reducible refine AW_prune (c := Code.region 4 _ true) [0, 2, 3, 5, 6] ?_); (with_reducible refine AW_regionDn 20 (holes_of ?_) ?_ ?_ ?_ ?_); (focus kernel_rfl); (focus kernel_rfl); (focus kernel_rfl); (focus kernel_rfl))
    | (with_reducible refine AW_regionP 5 [0, 2, 3, 5, 6] ?_)
    | ((with_reducible refine AW_prune (c := Code.region 5 _ true) [2, 4, 5, 6, 8, 9] ?_); (with_reducible refine AW_regionDn 20 (holes_of ?_) ?_ ?_ ?_ ?_); (focus kernel_rfl); (focus kernel_rfl); (focus kernel_rfl); (focus kernel_rfl))
    | (with_reducible refine AW_regionP 6 [2, 6, 8, 9] ?_)
    | ((with_reducible refine And.intro ?_ ?_); focus ((with_reducible show chkR _ _ _ = true); kernel_rfl))
    | ((with_reducible refine AW_loopF' (c := (Code.seq (Code.seq (Code.region 1 _ _) _) _)) (ι := Nat) [0, 2, 3] (fun q => [(5, iA .i64 ((a / 64 + q : Nat) : Int))]) (fun q => (some X0 :: some X1 :: some X2 :: some X3 :: some (rowV (bV Y) L) :: some ([.iv (.g (.int .i64 fi)), .slc 4 0 L 1, .iv (.g (.int .i64 en))]) :: none :: none :: some (rowsC 32 n) :: some ([.slc 8 0 n 1, .iv (.g (.int .i64 (((af - (q) * 64 : Nat) : Int))))]) :: some ([.iv (.g (.int .i64 (s : Int))), .slc 4 0 L 1, .iv (.g (.int .i64 en))]) :: some ([.iv (.g (.int .i64 (s : Int))), .slc 4 0 L 1, .iv (.g (.int .i64 en))]) :: some ([.iv (.g (.int .i64 (a : Int)))]) :: some ([.iv (.g (.int .i64 (b : Int)))]) :: some ([.ptr 9 0]) :: none :: none :: none :: none :: none :: none :: none :: none :: none :: none :: none :: none :: none :: none :: none :: none :: none :: (famL (fun k j => .g (.int .u8 ((wrR D Y (s + a / 64) (a / 64) af (q)) k j))) n))) (fun q => q ≤ b / 64 + 1 - a / 64) (fun q => b / 64 + 1 - a / 64 - q) 0 ?lg1 ?l11 ?l21 ?li1 ?lr1); (case' lg1 => rintro q _; exact GOk.cons (by simp only [List.mem_cons, forall_eq_or_imp, List.not_mem_nil, false_or, or_false, forall_eq, false_implies, implies_true, and_true, AV.ok, TV.ok, CV.ok, LV.ok, okB, hget, Option.isSome_some]; (repeat' (first | exact True.intro | (with_reducible refine And.intro ?_ ?_) | (intro _ h; exact h.elim) | rfl))) (hG.mono (subH_spec (by simp only [subH]; exact subH_fam n)))); (case' li1 => try (first | trivial | omega | (simp; done) | (simp; omega))); (case' lr1 => rintro q hq KR hR1; skip; simp only [keepE, hupd, hset, lk, if_true, if_false, Nat.reduceEqDiff, reduceIte, List.cons_append, List.nil_append, bytI, rowsI, p0, p1, p2, p3, maxLen, rowsC_len, hget_32, hset_32, secC_row, rowV_take, rowV_drop, rowV_zero, rowV_app, Nat.zero_min, Nat.min_self, toIVs_row, hz, f0, d0, f1, d1, f2, d2, Nat.add_eq_left, Nat.left_eq_add]))
    | ((with_reducible refine hR1 _ (q + 1) ?_); (try clear hR1 KR))
    | ((with_reducible refine Told.mk ?_); simp only [go_sem, reduceIte, reduceCtorEq, Nat.reduceAdd, Nat.reduceLT, Nat.reduceLeDiff, Nat.reduceEqDiff, Nat.reduceMul, Nat.reduceSub, Nat.reduceBEq, bytI, rowsI, p0, p1, p2, p3, maxLen, rowsC_len, hget_32, hset_32, secC_row, rowV_take, rowV_drop, rowV_zero, rowV_app, Nat.zero_min, Nat.min_self, toIVs_row, hz, f0, d0, f1, d1, f2, d2, Nat.add_eq_left, Nat.left_eq_add] <;> (first | exact True.intro | (((try simp (disch := omega) only [seaWrap, Int.natCast_add, Int.cast_ofNat_Int, and_true, true_and, and_self]); (repeat' (first | exact True.intro | omega | rfl | (with_reducible assumption) | (with_reducible refine And.intro ?_ ?_) | (exact all_succ (by assumption) (by assumption)) | (exact wkC_eq rfl (by assumption)) | (exact wkC_same _ _) | (exact wkH_famR _ _) | (exact wkC_rows fun k hk => okB_fam hk) | (exact wkH_fam _ fun i hi j hj => wr0 _ _ _ _ _ _ _) | (exact wkH_fam _ fun k hk j hj => wrS (by assumption) (by assumption) hj))); done)) | (refine Stuck.out ?_)))
    | ((fail_if_success (with_reducible show AW _ _ _ _)); simp (maxSteps := 2000000) only [go_sem, reduceIte, reduceCtorEq, Nat.reduceAdd, Nat.reduceLT, Nat.reduceLeDiff, Nat.reduceEqDiff, Nat.reduceMul, Nat.reduceSub, Nat.reduceBEq, Try.f48, Try.f59, zc_80, ty_80, ty_61, of_65_1, ty_3, of_65_0, of_24_0, ty_22, sl_22, ar_22, ty_25, sl_80, ar_80, sl_25, of_55_1, of_55_0, bytI, rowsI, p0, p1, p2, p3, maxLen, rowsC_len, hget_32, hset_32, secC_row, rowV_take, rowV_drop, rowV_zero, rowV_app, Nat.zero_min, Nat.min_self, toIVs_row, hz, f0, d0, f1, d1, f2, d2, Nat.add_eq_left, Nat.left_eq_add])
    | ((fail_if_success (with_reducible show AW _ _ _ _)); simp (disch := omega) only [seaWrap, seaDiv, seaMod])
    | ((refine AW_rangeFuncH (k := 59) rfl Try.func59 rfl fnok_59 (by rw [Try.ntmps59]; simp) ?_ ?_ (fun l hlne A B hA hB => ?_)); (focus (simp (maxSteps := 2000000) only [go_sem, reduceIte, reduceCtorEq, Nat.reduceAdd, Nat.reduceLT, Nat.reduceLeDiff, Nat.reduceEqDiff, Nat.reduceMul, Nat.reduceSub, Nat.reduceBEq, Try.f48, Try.f59, zc_80, ty_80, ty_61, of_65_1, ty_3, of_65_0, of_24_0, ty_22, sl_22, ar_22, ty_25, sl_80, ar_80, sl_25, of_55_1, of_55_0, bytI, rowsI, p0, p1, p2, p3, maxLen, rowsC_len, hget_32, hset_32, secC_row, rowV_take, rowV_drop, rowV_zero, rowV_app, Nat.zero_min, Nat.min_self, toIVs_row, hz, f0, d0, f1, d1, f2, d2, Nat.add_eq_left, Nat.left_eq_add]; try exact True.intro)); (focus (simp (maxSteps := 2000000) only [go_sem, reduceIte, reduceCtorEq, Nat.reduceAdd, Nat.reduceLT, Nat.reduceLeDiff, Nat.reduceEqDiff, Nat.reduceMul, Nat.reduceSub, Nat.reduceBEq, Try.f48, Try.f59, zc_80, ty_80, ty_61, of_65_1, ty_3, of_65_0, of_24_0, ty_22, sl_22, ar_22, ty_25, sl_80, ar_80, sl_25, of_55_1, of_55_0, bytI, rowsI, p0, p1, p2, p3, maxLen, rowsC_len, hget_32, hset_32, secC_row, rowV_take, rowV_drop, rowV_zero, rowV_app, Nat.zero_min, Nat.min_self, toIVs_row, hz, f0, d0, f1, d1, f2, d2, Nat.add_eq_left, Nat.left_eq_add]; try exact True.intro)); simp only [Try.ntmps59, List.map_cons, List.map_nil, LV.tv, argEnv, yV, Nat.zero_add, Nat.reduceAdd]; clear hlne)
    | (with_reducible refine AW_eq (by assumption) ?_)
    | ((with_reducible show callN _ _ _ _ _ _ (.yld _) _ _ _); (refine callN_y (by simp only [lkL, if_true]; exact rfl) ?_ (by simp) ?_ ?_ (fun K hK => ?_)); (focus (first | exact True.intro | (with_reducible assumption) | omega | (refine ⟨?_, ?_⟩ <;> omega) | (intro _; first | exact True.intro | (with_reducible assumption) | omega) | (intros; (repeat' (first | exact True.intro | omega | (with_reducible assumption) | (with_reducible refine And.intro ?_ ?_))); done) | (simp (disch := omega) only [Bool.and_eq_true, Bool.or_eq_true, decide_eq_true_eq, bne_iff_ne, ne_eq] at *; first | done | omega | (intros; omega)) | (simp; done) | (simp; omega) | (simp +contextual; done) | (intro h; rw [h]; rfl) | (intros; simp_all; done))); (focus (simp [ltAll])); (focus (first | (simp [lsF]; done) | assumption | exact ⟨Nat.ne_of_lt (Nat.lt_succ_self _), by assumption⟩)); simp only [zipPut, gf, if_true, Nat.reduceAdd])
    | ((with_reducible refine hK _ ?_); clear hK K)
    | (with_reducible apply_assumption -exfalso only [*]))

set_option maxRecDepth 100000 in
set_option maxHeartbeats 4000000 in
theorem write10_h (X0 X1 X2 X3 : List CV) (x0 : ∀ c, c ∈ X0 → isIv c) (x1 : ∀ c, c ∈ X1 → isIv c) (x2 : ∀ c, c ∈ X2 → isIv c) (x3 : ∀ c, c ∈ X3 → isIv c) (Y : Nat → Int) (L : Nat) (fi en : Int) (s a b : Nat) (n : Nat) (m : Nat → Nat) (D : Nat → Nat → Int) (hn : n ≤ 63) (af : Nat) (haf : af ≤ 9223372036854775807) (hab : a / 64 ≤ b / 64) (hb : (b / 64 + 1) * 64 ≤ L) (hL : L ≤ 100000) (hs : s + b / 64 < n) : CallsH Try.prog 48 [.one (.ptr 9 0), .one (.fn (.func 59) [] [.ptr 11 0, .ptr 12 0, .ptr 10 0])] ((some X0 :: some X1 :: some X2 :: some X3 :: some (rowV (bV Y) L) :: some ([.iv (.g (.int .i64 fi)), .slc 4 0 L 1, .iv (.g (.int .i64 en))]) :: none :: none :: some (rowsC 32 n) :: some ([.slc 8 0 n 1, .iv (.g (.int .i64 ((af : Int))))]) :: some ([.iv (.g (.int .i64 (s : Int))), .slc 4 0 L 1, .iv (.g (.int .i64 en))]) :: some ([.iv (.g (.int .i64 (a : Int)))]) :: some ([.iv (.g (.int .i64 (b : Int)))]) :: none :: none :: none :: none :: none :: none :: none :: none :: none :: none :: none :: none :: none :: none :: none :: none :: none :: none :: none :: (famL (fun k j => .g (.int .u8 ((D) k j))) n))) (.tup []) ((some X0 :: some X1 :: some X2 :: some X3 :: some (rowV (bV Y) L) :: some ([.iv (.g (.int .i64 fi)), .slc 4 0 L 1, .iv (.g (.int .i64 en))]) :: none :: none :: some (rowsC 32 n) :: some ([.slc 8 0 n 1, .iv (.g (.int .i64 (((af - (b / 64 + 1 - a / 64) * 64 : Nat) : Int))))]) :: some ([.iv (.g (.int .i64 (s : Int))), .slc 4 0 L 1, .iv (.g (.int .i64 en))]) :: some ([.iv (.g (.int .i64 (a : Int)))]) :: some ([.iv (.g (.int .i64 (b : Int)))]) :: some ([.ptr 9 0]) :: none :: none :: none :: none :: none :: none :: none :: none :: none :: none :: none :: none :: none :: none :: none :: none :: none :: none :: (famL (fun k j => .g (.int .u8 ((wrR D Y (s + a / 64) (a / 64) af (b / 64 + 1 - a / 64)) k j))) n))) := by
  have p0 := fun i => purge_iv i x0
  have p1 := fun i => purge_iv i x1
  have p2 := fun i => purge_iv i x2
  have p3 := fun i => purge_iv i x3
  have m0 := fun a b => mv_iv a b x0
  have m1 := fun a b => mv_iv a b x1
  have m2 := fun a b => mv_iv a b x2
  have m3 := fun a b => mv_iv a b x3
  have hz : True := trivial
  refine CallsH_ofG Try.func48 rfl (by rw [Try.ntmps48]; simp) fun g ls fr hG hFr => ?_
  obtain ⟨f0, d0⟩ := hFr fr (Nat.le_refl _)
  obtain ⟨f1, d1⟩ := hFr (fr + 1) (by omega)
  obtain ⟨f2, d2⟩ := hFr (fr + 2) (by omega)

  simp only [Try.ntmps48, argEnv, Nat.zero_add, Nat.reduceAdd]
  repeat' (first
    | (with_reducible refine AW_seq_k fun K hK => ?_)
    | ((first | (with_reducible refine And.intro ?_ ?_) | (with_reducible refine Need.mk ?_)); focus (first | exact True.intro | (with_reducible assumption) | omega | (refine ⟨?_, ?_⟩ <;> omega) | (intro _; first | exact True.intro | (with_reducible assumption) | omega) | (intros; (repeat' (first | exact True.intro | omega | (with_reducible assumption) | (with_reducible refine And.intro ?_ ?_))); done) | (simp (disch := omega) only [Bool.and_eq_true, Bool.or_eq_true, decide_eq_true_eq, bne_iff_ne, ne_eq] at *; first | done | omega | (intros; omega)) | (simp; done) | (simp; omega) | (simp +contextual; done) | (intro h; rw [h]; rfl) | (intros; simp_all; done)))
    | (with_reducible refine AW_skip ?_)
    | (with_reducible refine AW_exit ?_)
    | (with_reducible refine AW_ret ?_)
    | (with_reducible refine retK_n ?_)
    | (with_reducible refine retK_n' ?_)
    | (with_reducible refine retH_n rfl rfl rfl ?_)
    | (with_reducible refine retH_n' rfl rfl rfl ?_)
    | (with_reducible refine retO_n ?_ ?_)
    | (with_reducible refine retO_n' ?_ ?_)
    | (with_reducible refine AW_condI ?_)
    | (with_reducible refine AW_block ?_)
    | ((with_reducible refine condN_t ?_ ?_) <;> (intro hc; (try simp only [Bool.and_eq_true, Bool.or_eq_true, Bool.not_eq_true', Bool.and_eq_false_iff, Bool.or_eq_false_iff, decide_eq_true_eq, decide_eq_false_iff_not, bne_iff_ne, beq_iff_eq, reduceCtorEq, bne_eq_false_iff_eq, beq_eq_false_iff_ne, Bool.not_eq_false', Int.not_le, Int.not_lt, Bool.not_not] at hc); ((try (have e0 : q = b / 64 + 1 - a / 64 := (by omega); subst e0)); (try (have hk : a / 64 + q ≤ b / 64 := (by omega); obtain ⟨i, hi⟩ : ∃ i, i = s + (a / 64 + q) := ⟨_, rfl⟩; obtain ⟨w, hw⟩ : ∃ w, w = min (af - q * 64) 64 := ⟨_, rfl⟩; have hz1 : (((a / 64 + q : Nat) : Int) * 64 = (L : Int)) = False := eq_false (by omega); have hz2 : (((a / 64 + q : Nat) : Int) * 64).toNat = (a / 64 + q) * 64 := (by omega); have hz3 : ((L : Int) - ((a / 64 + q : Nat) : Int) * 64).toNat = L - (a / 64 + q) * 64 := (by omega); have hz4 : min (L - (a / 64 + q) * 64) 64 = 64 := (by omega); clear hz; have hz := And.intro hz1 (And.intro hz2 (And.intro hz3 (And.intro hz4 (And.intro ((Nat.min_comm _ _).trans hz4) (wr_facts D Y s a af n q w i (by omega) hi hw)))))))); (try (exfalso; first | contradiction | omega))))
    | (with_reducible refine AW_regionP 0 [0, 1, 2, 3, 8, 9] ?_)
    | (with_reducible refine AW_regionP 1 [0, 1, 2, 3, 5, 8, 9] ?_)
    | (with_reducible refine AW_regionP 2 [0, 2, 3, 5, 8, 9] ?_)
    | (with_reducible refine AW_regionP 3 [0, 2, 3, 4, 5, 8, 9] ?_)
    | (with_reducible refine AW_regionP 4 [2, 4, 5, 8, 9] ?_)
    | ((with_reducible refine AW_prune (c := Code.region 4 _ true) [0, 2, 3, 5, 6] ?_); (with_reducible refine AW_regionDn 20 (holes_of ?_) ?_ ?_ ?_ ?_); (focus kernel_rfl); (focus kernel_rfl); (focus kernel_rfl); (focus kernel_rfl))
    | (with_reducible refine AW_regionP 5 [0, 2, 3, 5, 6] ?_)
    | ((with_reducible refine AW_prune (c := Code.region 5 _ true) [2, 4, 5, 6, 8, 9] ?_); (with_reducible refine AW_regionDn 20 (holes_of ?_) ?_ ?_ ?_ ?_); (focus kernel_rfl); (focus kernel_rfl); (focus kernel_rfl); (focus kernel_rfl))
    | (with_reducible refine AW_regionP 6 [2, 6, 8, 9] ?_)
    | ((with_reducible refine And.intro ?_ ?_); focus ((with_reducible show chkR _ _ _ = true); kernel_rfl))
    | ((with_reducible refine AW_loopF' (c := (Code.seq (Code.seq (Code.region 1 _ _) _) _)) (ι := Nat) [0, 2, 3] (fun q => [(5, iA .i64 ((a / 64 + q : Nat) : Int))]) (fun q => (some X0 :: some X1 :: some X2 :: some X3 :: some (rowV (bV Y) L) :: some ([.iv (.g (.int .i64 fi)), .slc 4 0 L 1, .iv (.g (.int .i64 en))]) :: none :: none :: some (rowsC 32 n) :: some ([.slc 8 0 n 1, .iv (.g (.int .i64 (((af - (q) * 64 : Nat) : Int))))]) :: some ([.iv (.g (.int .i64 (s : Int))), .slc 4 0 L 1, .iv (.g (.int .i64 en))]) :: some ([.iv (.g (.int .i64 (a : Int)))]) :: some ([.iv (.g (.int .i64 (b : Int)))]) :: some ([.ptr 9 0]) :: none :: none :: none :: none :: none :: none :: none :: none :: none :: none :: none :: none :: none :: none :: none :: none :: none :: none :: (famL (fun k j => .g (.int .u8 ((wrR D Y (s + a / 64) (a / 64) af (q)) k j))) n))) (fun q => q ≤ b / 64 + 1 - a / 64) (fun q => b / 64 + 1 - a / 64 - q) 0 ?lg1 ?l11 ?l21 ?li1 ?lr1); (case' lg1 => rintro q _; exact GOk.cons (by simp only [List.mem_cons, forall_eq_or_imp, List.not_mem_nil, false_or, or_false, forall_eq, false_implies, implies_true, and_true, AV.ok, TV.ok, CV.ok, LV.ok, okB, hget, Option.isSome_some]; (repeat' (first | exact True.intro | (with_reducible refine And.intro ?_ ?_) | (intro _ h; exact h.elim) | rfl))) (hG.mono (subH_spec (by simp only [subH]; exact subH_fam n)))); (case' li1 => try (first | trivial | omega | (simp; done) | (simp; omega))); (case' lr1 => rintro q hq KR hR1; skip; simp only [keepE, hupd, hset, lk, if_true, if_false, Nat.reduceEqDiff, reduceIte, List.cons_append, List.nil_append, bytI, rowsI, p0, p1, p2, p3, maxLen, rowsC_len, hget_32, hset_32, secC_row, rowV_take, rowV_drop, rowV_zero, rowV_app, Nat.zero_min, Nat.min_self, toIVs_row, hz, f0, d0, f1, d1, f2, d2, Nat.add_eq_left, Nat.left_eq_add]))
    | ((with_reducible refine hR1 _ (q + 1) ?_); (try clear hR1 KR))
    | ((with_reducible refine Told.mk ?_); simp only [go_sem, reduceIte, reduceCtorEq, Nat.reduceAdd, Nat.reduceLT, Nat.reduceLeDiff, Nat.reduceEqDiff, Nat.reduceMul, Nat.reduceSub, Nat.reduceBEq, bytI, rowsI, p0, p1, p2, p3, maxLen, rowsC_len, hget_32, hset_32, secC_row, rowV_take, rowV_drop, rowV_zero, rowV_app, Nat.zero_min, Nat.min_self, toIVs_row, hz, f0, d0, f1, d1, f2, d2, Nat.add_eq_left, Nat.left_eq_add] <;> (first | exact True.intro | (((try simp (disch := omega) only [seaWrap, Int.natCast_add, Int.cast_ofNat_Int, and_true, true_and, and_self]); (repeat' (first | exact True.intro | omega | rfl | (with_reducible assumption) | (with_reducible refine And.intro ?_ ?_) | (exact all_succ (by assumption) (by assumption)) | (exact wkC_eq rfl (by assumption)) | (exact wkC_same _ _) | (exact wkH_famR _ _) | (exact wkC_rows fun k hk => okB_fam hk) | (exact wkH_fam _ fun i hi j hj => wr0 _ _ _ _ _ _ _) | (exact wkH_fam _ fun k hk j hj => wrS (by assumption) (by assumption) hj))); done)) | (refine Stuck.out ?_)))
    | ((fail_if_success (with_reducible show AW _ _ _ _)); simp (maxSteps := 2000000) only [go_sem, reduceIte, reduceCtorEq, Nat.reduceAdd, Nat.reduceLT, Nat.reduceLeDiff, Nat.reduceEqDiff, Nat.reduceMul, Nat.reduceSub, Nat.reduceBEq, Try.f48, Try.f59, zc_80, ty_80, ty_61, of_65_1, ty_3, of_65_0, of_24_0, ty_22, sl_22, ar_22, ty_25, sl_80, ar_80, sl_25, of_55_1, of_55_0, bytI, rowsI, p0, p1, p2, p3, maxLen, rowsC_len, hget_32, hset_32, secC_row, rowV_take, rowV_drop, rowV_zero, rowV_app, Nat.zero_min, Nat.min_self, toIVs_row, hz, f0, d0, f1, d1, f2, d2, Nat.add_eq_left, Nat.left_eq_add])
    | ((fail_if_success (with_reducible show AW _ _ _ _)); simp (disch := omega) only [seaWrap, seaDiv, seaMod])
    | ((refine AW_rangeFuncH (k := 59) rfl Try.func59 rfl fnok_59 (by rw [Try.ntmps59]; simp) ?_ ?_ (fun l hlne A B hA hB => ?_)); (focus (simp (maxSteps := 2000000) only [go_sem, reduceIte, reduceCtorEq, Nat.reduceAdd, Nat.reduceLT, Nat.reduceLeDiff, Nat.reduceEqDiff, Nat.reduceMul, Nat.reduceSub, Nat.reduceBEq, Try.f48, Try.f59, zc_80, ty_80, ty_61, of_65_1, ty_3, of_65_0, of_24_0, ty_22, sl_22, ar_22, ty_25, sl_80, ar_80, sl_25, of_55_1, of_55_0, bytI, rowsI, p0, p1, p2, p3, maxLen, rowsC_len, hget_32, hset_32, secC_row, rowV_take, rowV_drop, rowV_zero, rowV_app, Nat.zero_min, Nat.min_self, toIVs_row, hz, f0, d0, f1, d1, f2, d2, Nat.add_eq_left, Nat.left_eq_add]; try exact True.intro)); (focus (simp (maxSteps := 2000000) only [go_sem, reduceIte, reduceCtorEq, Nat.reduceAdd, Nat.reduceLT, Nat.reduceLeDiff, Nat.reduceEqDiff, Nat.reduceMul, Nat.reduceSub, Nat.reduceBEq, Try.f48, Try.f59, zc_80, ty_80, ty_61, of_65_1, ty_3, of_65_0, of_24_0, ty_22, sl_22, ar_22, ty_25, sl_80, ar_80, sl_25, of_55_1, of_55_0, bytI, rowsI, p0, p1, p2, p3, maxLen, rowsC_len, hget_32, hset_32, secC_row, rowV_take, rowV_drop, rowV_zero, rowV_app, Nat.zero_min, Nat.min_self, toIVs_row, hz, f0, d0, f1, d1, f2, d2, Nat.add_eq_left, Nat.left_eq_add]; try exact True.intro)); simp only [Try.ntmps59, List.map_cons, List.map_nil, LV.tv, argEnv, yV, Nat.zero_add, Nat.reduceAdd]; clear hlne)
    | (with_reducible refine AW_eq (by assumption) ?_)
    | ((with_reducible show callN _ _ _ _ _ _ (.yld _) _ _ _); (refine callN_y (by simp only [lkL, if_true]; exact rfl) ?_ (by simp) ?_ ?_ (fun K hK => ?_)); (focus (first | exact True.intro | (with_reducible assumption) | omega | (refine ⟨?_, ?_⟩ <;> omega) | (intro _; first | exact True.intro | (with_reducible assumption) | omega) | (intros; (repeat' (first | exact True.intro | omega | (with_reducible assumption) | (with_reducible refine And.intro ?_ ?_))); done) | (simp (disch := omega) only [Bool.and_eq_true, Bool.or_eq_true, decide_eq_true_eq, bne_iff_ne, ne_eq] at *; first | done | omega | (intros; omega)) | (simp; done) | (simp; omega) | (simp +contextual; done) | (intro h; rw [h]; rfl) | (intros; simp_all; done))); (focus (simp [ltAll])); (focus (first | (simp [lsF]; done) | assumption | exact ⟨Nat.ne_of_lt (Nat.lt_succ_self _), by assumption⟩)); simp only [zipPut, gf, if_true, Nat.reduceAdd])
    | ((with_reducible refine hK _ ?_); clear hK K)
    | (with_reducible apply_assumption -exfalso only [*]))

end Go.Proofs.Ytifoncmlelinjaa
