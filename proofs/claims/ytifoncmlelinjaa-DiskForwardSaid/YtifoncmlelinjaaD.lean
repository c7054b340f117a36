/- D: walks on abstract states. -/
import Derived.Test.YtifoncmlelinjaaC
set_option linter.unusedVariables false
set_option linter.unusedSimpArgs false
namespace Go.Proofs.Ytifoncmlelinjaa
open Go.RowKit Go.Sea
attribute [local go_sem] callK_N gf gk gdrop lkL setL lsF ltAll rdyL bodyF roundQ roundS loopQ loopS jumpOf inLs yV yA bAV zipPut purgeG List.tail_cons Option.isNone_none Option.isNone_some callGK_f callDK_f callDGK_f retN retHN blockA arun_nil arun_plain arun_guard plainF guardF guardB arunD_nil arunD_plain arunD_guard plainDF guardDF guardDB AS.ent Eff.noApp Eff.tgt ftF AV.refs TV.refs CV.refs LV.refs Op.operands Call.operands List.append_toArray List.push_toArray List.flatMap_cons List.flatMap_nil List.toList_toArray Option.toArray nidF nidA List.reverse_cons List.reverse_nil opF AS.ev constA lk AS.get AV.tv AV.nd AS.eff AS.put argEnv PT.tv PV.av AV.mbOf hset hget TV.cells dstOk thenA gB isB toB TV.bool? TV.int? intF loadF storeF fieldF indexF lenF sliceF optI appF minmaxF ipCells fillF partsF lvsF TV.lv LV.tv purgeE purgeC purgeH AV.purge CV.purge AV.has TV.has CV.has LV.has calleeF argsF tvsF toPT toIV toIVs toPTs toPV iA bA List.map_cons List.map_nil List.length_nil List.length_cons List.getElem?_cons_zero List.getElem?_cons_succ List.getElem?_nil Option.getD_some Option.getD_none Option.bind_some Option.bind_none List.take_succ_cons List.take_zero List.drop_succ_cons List.drop_zero List.take_nil List.drop_nil List.cons_append List.nil_append List.append_nil List.getD_cons_zero List.getD_cons_succ Option.map_some Option.map_none Option.isSome_some Option.isSome_none List.size_toArray List.any_cons List.any_nil List.mem_cons if_true if_false ite_true ite_false cond_true cond_false Nat.zero_add Nat.add_zero Nat.sub_zero Nat.le_refl Nat.zero_mul Nat.mul_zero Nat.one_mul Nat.mul_one Int.toNat_zero Int.toNat_natCast Bool.or_false Bool.false_or Bool.or_true Bool.true_or Bool.and_true Bool.true_and Bool.and_false Bool.false_and beq_self_eq_true beq_true beq_false Bool.not_true Bool.not_false and_true true_and and_false false_and and_self imp_self Bool.cond_false_right Bool.cond_true_left implies_true forall_const true_implies false_implies Option.some.injEq Prod.mk.injEq ne_eq not_false_eq_true not_true_eq_false eq_self Nat.lt_irrefl Nat.not_lt_zero op2F ncF slice3F offF slArrF copyF clearF toArrF callDK_t calleeT eqN barOp boF seaMin seaMax seaNat1 seaNat2 Value.bool.injEq Value.int.injEq srcF lstC TV.dp IV.eqv PT.eqv PV.eqv All2 keepE hupd callZ_N AS.frz AS.frzW frzs frzsOk frzOk frzE frzA frzT frzC frzG frzH hdel cmpS eqF eqC gvs eqVs eqV decide_true resF tupA inlQ okL okGL okG nextL wkH wkC wkV nilA nilC AV.ok TV.ok CV.ok LV.ok okB forall_eq_or_imp forall_eq List.not_mem_nil List.mem_singleton true_or or_true or_false false_or or_self exists_prop AV.t.injEq TV.one.injEq CV.iv.injEq IV.g.injEq TV.agg.injEq List.cons.injEq repC_0 repC_1 repC_2 repC_3 rowV_len rowV_pur rowV_has rowV_frz frzC isIv_iv civ_iv rowV_all List.map_append retON AV.to TV.to CV.to
theorem in_3 : inD Try.prog 3 = some .i64 := by kernel_rfl
theorem zc_25 : zeroC Try.prog 25 = some [.iv (.g (.slice none 0 0))] := by kernel_rfl

def rl (b : Nat → Int) (p : Nat) : Nat := (b (p + 1)).toNat * 256 + (b (p + 2)).toNat
def posS (b : Nat → Int) : Nat → Nat
  | 0 => 0
  | k + 1 => posS b k + 3 + rl b (posS b k)
theorem posS_0 (b : Nat → Int) : posS b 0 = 0 := rfl
theorem posS_s (b : Nat → Int) (k : Nat) : posS b (k + 1) = posS b k + 3 + rl b (posS b k) := rfl
def goP (b : Nat → Int) (L k : Nat) : Prop := posS b k < L ∧ b (posS b k) = 1 ∧ posS b (k + 1) ≤ L
instance (b : Nat → Int) (L k : Nat) : Decidable (goP b L k) := by unfold goP; infer_instance
def cntF (b : Nat → Int) (L : Nat) : Nat → Nat → Nat
  | 0, k => k
  | f + 1, k => if goP b L k then cntF b L f (k + 1) else k
def cnt (b : Nat → Int) (L : Nat) : Nat := cntF b L (L + 1) 0
theorem posS_ge (b : Nat → Int) : ∀ k, 3 * k ≤ posS b k
  | 0 => Nat.le_refl _
  | k + 1 => by have := posS_ge b k; simp only [posS]; omega
theorem cntF_eq {b : Nat → Int} {L k : Nat} (h' : ¬ goP b L k) : ∀ f j, j ≤ k → k - j < f → (∀ i, j ≤ i → i < k → goP b L i) → cntF b L f j = k
  | 0, j, _, hf, _ => by omega
  | f + 1, j, hj, hf, h => by
    simp only [cntF]
    by_cases e : j = k
    · subst e; rw [if_neg h']
    · rw [if_pos (h j (Nat.le_refl _) (by omega))]
      exact cntF_eq h' f (j + 1) (by omega) (by omega) fun i h1 h2 => h i (by omega) h2
theorem cnt_eq {b : Nat → Int} {L k : Nat} (h : ∀ i, i < k → goP b L i) (h' : ¬ goP b L k) : cnt b L = k := by
  refine cntF_eq h' (L + 1) 0 (Nat.zero_le _) ?_ fun i _ hi => h i hi
  rcases k with _ | k
  · omega
  · have h1 := (h k (by omega)).2.2
    have := posS_ge b (k + 1)
    omega
theorem cnt_ex (b : Nat → Int) (L : Nat) : ∃ k, (∀ i, i < k → goP b L i) ∧ ¬ goP b L k := by
  refine Classical.byContradiction fun h => ?_
  have all : ∀ k, ∀ i, i < k → goP b L i := fun k => by
    induction k with
    | zero => intro i hi; omega
    | succ k ih =>
      have : goP b L k := Classical.byContradiction fun h' => h ⟨k, ih, h'⟩
      intro i hi
      by_cases e : i = k
      · subst e; exact this
      · exact ih i (by omega)
  have h1 := (all (L + 1) L (by omega)).1
  have := posS_ge b L
  omega
theorem cnt_go {b : Nat → Int} {L : Nat} : (∀ i, i < cnt b L → goP b L i) ∧ ¬ goP b L (cnt b L) := by
  obtain ⟨k, h1, h2⟩ := cnt_ex b L
  rw [cnt_eq h1 h2]
  exact ⟨h1, h2⟩
def endP (b : Nat → Int) (L : Nat) : Nat := posS b (cnt b L)
def okP (b : Nat → Int) (L : Nat) : Bool := decide (endP b L = L ∨ (endP b L < L ∧ b (endP b L) = 0))
def failP (b : Nat → Int) (L : Nat) : Prop := endP b L < L ∧ b (endP b L) = 1
instance (b : Nat → Int) (L : Nat) : Decidable (failP b L) := by unfold failP; infer_instance
def outN (b : Nat → Int) (L : Nat) : Nat := if failP b L then 0 else cnt b L
def endR (b : Nat → Int) (L : Nat) : Nat := if failP b L then 0 else endP b L
def recL (b : Nat → Int) (i : Nat) : Nat := rl b (posS b i)
def recF (b : Nat → Int) (i j : Nat) : Int := b (posS b i + 3 + j)
theorem parse_fail {b : Nat → Int} {L k : Nat} (h : ∀ i, i < k → goP b L i) (h1 : posS b k < L) (h2 : b (posS b k) = 1) (h3 : L < posS b (k + 1)) : outN b L = 0 ∧ endR b L = 0 ∧ okP b L = false ∧ endP b L = posS b k := by
  have e : cnt b L = k := cnt_eq h fun h' => by have := h'.2.2; omega
  have e2 : endP b L = posS b k := by unfold endP; rw [e]
  have f : failP b L := by unfold failP; rw [e2]; exact ⟨h1, h2⟩
  refine ⟨if_pos f, if_pos f, ?_, e2⟩
  unfold okP
  rw [e2]
  exact decide_eq_false (by omega)
theorem parse_stop {b : Nat → Int} {L k : Nat} (h : ∀ i, i < k → goP b L i) (h1 : posS b k < L → b (posS b k) ≠ 1) : outN b L = k ∧ endR b L = posS b k ∧ okP b L = decide (posS b k = L ∨ (posS b k < L ∧ b (posS b k) = 0)) ∧ endP b L = posS b k := by
  have e : cnt b L = k := cnt_eq h fun h' => h1 h'.1 h'.2.1
  have e2 : endP b L = posS b k := by unfold endP; rw [e]
  have f : ¬ failP b L := by unfold failP; rw [e2]; exact fun h => h1 h.1 h.2
  refine ⟨(if_neg f).trans e, (if_neg f).trans e2, ?_, e2⟩
  unfold okP
  rw [e2]
theorem rl_int {b : Nat → Int} (hb : Byt b) (p : Nat) : 256 * b (p + 1) + b (p + 2) = (rl b p : Int) ∧ rl b p < 65536 := by
  have h1 := hb (p + 1)
  have h2 := hb (p + 2)
  unfold rl
  omega
theorem toNat3 (k j : Nat) : ((k : Int) + (j : Int)).toNat = k + j := by omega
theorem toNat_1 (k : Nat) : ((k : Int) + 1).toNat = k + 1 := by omega
theorem toNat_2 (k : Nat) : ((k : Int) + 2).toNat = k + 2 := by omega
def recI (b : Nat → Int) (i : Nat) : IV := .lst 1 (recL b i) (bytI (recF b i))

set_option maxRecDepth 100000 in
set_option maxHeartbeats 4000000 in
theorem rparse_p (L : Nat) (b : Nat → Int) (hL : L ≤ 100000) (hb : Byt b) : CallsP Try.prog 37 [.one (.lst 1 (L) (bytI (b)))] (.tup [.one (.lst 1 (outN b L) (rowsI (recL b) (recF b))), .one (.g (.int .i64 ((endR b L : Int)))), .one (.g (.bool (okP b L)))]) := by
  have hz : True := trivial
  refine CallsP_of Try.func37 rfl (by rw [Try.ntmps37]; simp) ?_
  simp only [Try.ntmps37, List.map_cons, List.map_nil, PT.tv, argEnv, Nat.zero_add, Nat.reduceAdd]
  repeat' (first
    | (with_reducible refine AW_seq_k fun K hK => ?_)
    | ((first | (with_reducible refine And.intro ?_ ?_) | (with_reducible refine Need.mk ?_)); focus (first | exact True.intro | (with_reducible assumption) | omega | (refine ⟨?_, ?_⟩ <;> omega) | (intro _; first | exact True.intro | (with_reducible assumption) | omega) | (intros; (repeat' (first | exact True.intro | omega | (with_reducible assumption) | (with_reducible refine And.intro ?_ ?_))); done) | (simp (disch := omega) only [Bool.and_eq_true, Bool.or_eq_true, decide_eq_true_eq, bne_iff_ne, ne_eq] at *; first | done | omega | (intros; omega)) | (simp; done) | (simp; omega) | (simp +contextual; done) | (intro h; rw [h]; rfl) | (intros; simp_all; done)))
    | (with_reducible refine AW_skip ?_)
    | (with_reducible refine AW_exit ?_)
    | (with_reducible refine AW_ret ?_)
    | (with_reducible refine retK_n ?_)
    | (with_reducible refine retK_n' ?_)
    | (with_reducible refine retH_n rfl rfl rfl ?_)
    | (with_reducible refine retH_n' rfl rfl rfl ?_)
    | (with_reducible refine retO_n ?_ ?_)
    | (with_reducible refine retO_n' ?_ ?_)
    | (with_reducible refine AW_condI ?_)
    | (with_reducible refine AW_block ?_)
    | ((with_reducible refine condN_t ?_ ?_) <;> (intro hc; (try simp only [Bool.and_eq_true, Bool.or_eq_true, Bool.not_eq_true', Bool.and_eq_false_iff, Bool.or_eq_false_iff, decide_eq_true_eq, decide_eq_false_iff_not, bne_iff_ne, beq_iff_eq, reduceCtorEq, bne_eq_false_iff_eq, beq_eq_false_iff_ne, Bool.not_eq_false', Int.not_le, Int.not_lt, Bool.not_not] at hc); (skip); (try (exfalso; first | contradiction | omega))))
    | (with_reducible refine AW_regionP 0 [0] ?_)
    | (with_reducible refine AW_regionP 1 [0] ?_)
    | (with_reducible refine AW_regionP 2 [0, 5] ?_)
    | (with_reducible refine AW_regionP 3 [0, 5, 6] ?_)
    | (with_reducible refine AW_regionP 4 [0, 5, 6] ?_)
    | (with_reducible refine AW_regionP 5 [] ?_)
    | ((with_reducible refine AW_prune (c := Code.region 6 _ true) [0, 5, 6] ?_); (with_reducible refine AW_regionD ?_ ?_ ?_ ?_); (focus kernel_rfl); (focus kernel_rfl); (focus kernel_rfl))
    | (with_reducible refine AW_regionP 7 [0, 5, 6, 7] ?_)
    | (with_reducible refine AW_regionP 8 [] ?_)
    | (with_reducible refine AW_regionP 9 [0, 5, 6, 7] ?_)
    | (with_reducible refine AW_regionP 10 [0, 5, 6, 7, 8] ?_)
    | (with_reducible refine AW_regionP 11 [0, 5, 6, 7, 8, 9] ?_)
    | (with_reducible refine AW_regionP 12 [0, 5, 6, 7, 8, 9] ?_)
    | (with_reducible refine AW_regionP 13 [0, 5, 6, 7, 8, 9] ?_)
    | (with_reducible refine AW_frz (c := Code.region 14 _ false) [1] ?_ (AW_regionP 14 [0, 5, 6, 7, 8] ?_))
    | (with_reducible refine AW_regionP 15 [0, 5, 6, 7] ?_)
    | ((with_reducible refine AW_prune (c := Code.region 16 _ true) [0, 5, 6] ?_); (with_reducible refine AW_regionD ?_ ?_ ?_ ?_); (focus kernel_rfl); (focus kernel_rfl); (focus kernel_rfl))
    | ((with_reducible refine And.intro ?_ ?_); focus ((with_reducible show chkR _ _ _ = true); kernel_rfl))
    | ((with_reducible refine AW_loopQ (c := (Code.seq (Code.seq (Code.region 3 _ _) _) _)) (ι := Nat) [0] (fun k => [(5, .t (.one (.slc 0 0 k 1))), (6, iA .i64 (posS b k : Int))]) (fun k => [(0, rowV (recI b) k)]) (fun k => posS b k ≤ L ∧ (∀ i, i < k → goP b L i)) (fun k => L - posS b k) 0 ?lg3 ?l13 ?l23 ?li3 ?lr3); (case' lg3 => rintro k _); (case' li3 => try (exact ⟨Nat.zero_le _, fun i hi => absurd hi (Nat.not_lt_zero _)⟩)); (case' lr3 => rintro k ⟨h1, h2⟩ KR hR3; have hp := hb (posS b k); obtain ⟨hr, hr2⟩ := rl_int hb (posS b k); have hp1 := hb (posS b k + 1); have hp2 := hb (posS b k + 2); have hps := posS_s b k; have hg := posS_ge b k; clear hz; have hz := hr; simp only [keepE, hupd, hset, lk, if_true, if_false, Nat.reduceEqDiff, reduceIte, List.cons_append, List.nil_append, bytI, rowsI, lstC_row, maxLen, hz, toNat_1, toNat_2]))
    | ((with_reducible refine hR3 _ (k + 1) ?_); (try clear hR3 KR))
    | ((with_reducible refine AW_loopQ (c := (Code.seq (Code.seq (Code.region 11 _ _) _) _)) (ι := Nat) [0, 5, 6, 7] (fun j => [(8, .t (.one (.slc 1 0 j 1))), (9, iA .i64 ((posS b k + 3 + j : Nat) : Int))]) (fun j => [(1, rowV (fun j => .g (.int .u8 (recF b k j))) j)]) (fun j => j ≤ rl b (posS b k)) (fun j => rl b (posS b k) - j) 0 ?lg11 ?l111 ?l211 ?li11 ?lr11); (case' lg11 => rintro j _); (case' li11 => try (first | trivial | omega | (simp; done) | (simp; omega))); (case' lr11 => rintro j h3 KR hR11; skip; simp only [keepE, hupd, hset, lk, if_true, if_false, Nat.reduceEqDiff, reduceIte, List.cons_append, List.nil_append, bytI, rowsI, lstC_row, maxLen, hz, toNat_1, toNat_2]))
    | ((with_reducible refine hR11 _ (j + 1) ?_); (try clear hR11 KR))
    | ((with_reducible refine Told.mk ?_); simp only [go_sem, reduceIte, reduceCtorEq, Nat.reduceAdd, Nat.reduceLT, Nat.reduceLeDiff, Nat.reduceEqDiff, Nat.reduceMul, Nat.reduceSub, Nat.reduceBEq, bytI, rowsI, lstC_row, maxLen, hz, toNat_1, toNat_2] <;> (first | exact True.intro | (((try simp (disch := omega) only [seaWrap, Int.natCast_add, Int.cast_ofNat_Int, and_true, true_and, and_self]); (repeat' (first | exact True.intro | omega | rfl | (with_reducible assumption) | (with_reducible refine And.intro ?_ ?_) | (exact all_succ (by assumption) (by assumption)) | (exact wkC_same _ _) | ((refine wkC_snoc' ⟨rfl, ?_, fun i o hi ho => ?_⟩; focus (unfold recL; omega)); exact rowV_eqv' (F := bytI (recF b k)) (fun j hj => IV.eqv_refl _) i o hi ho) | (exact wkC_snoc' rfl) | (exact all_succ (by assumption) ⟨by omega, by omega, by omega⟩))); done)) | (refine Stuck.out ?_)))
    | ((fail_if_success (with_reducible show AW _ _ _ _)); simp (maxSteps := 2000000) only [go_sem, reduceIte, reduceCtorEq, Nat.reduceAdd, Nat.reduceLT, Nat.reduceLeDiff, Nat.reduceEqDiff, Nat.reduceMul, Nat.reduceSub, Nat.reduceBEq, Try.f37, le_25, sl_25, ar_25, ty_5, in_3, zc_5, sl_22, zc_25, bytI, rowsI, lstC_row, maxLen, hz, toNat_1, toNat_2])
    | ((fail_if_success (with_reducible show AW _ _ _ _)); simp (disch := omega) only [seaWrap, seaDiv, seaMod, toNat_1, toNat_2, hz])
    | ((with_reducible refine hK _ ?_); clear hK K)
    | (with_reducible apply_assumption -exfalso only [*]))
  all_goals first
    | (obtain ⟨e1, e2, e3, e4⟩ := parse_fail h2 (by omega) (by omega) (by omega); rw [e1, e2, e3]; exact ⟨rfl, rfl, rfl⟩)
    | (obtain ⟨e1, e2, e3, e4⟩ := parse_stop h2 (fun h => by omega); rw [e1, e2, e3]; refine ⟨⟨rfl, fun i o hi ho => ?_⟩, rfl, ?_⟩)
  all_goals first
  | exact rowV_eqv' (f := recI b) (F := fun i o => .lst 1 (recL b i) (bytI (recF b i))) (fun j hj => IV.eqv_refl _) i o hi ho
  | (refine Bool.eq_iff_iff.2 ?_; simp only [Bool.or_eq_true, beq_iff_eq, decide_eq_true_eq]; omega)

end Go.Proofs.Ytifoncmlelinjaa
