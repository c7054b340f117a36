/- A: walks on abstract states. -/
import Derived.Test.YtifoncmlelinjaaProg
import Derived.Test.YtifoncmlelinjaaSeaZ
set_option linter.unusedVariables false
set_option linter.unusedSimpArgs false
namespace Go.Proofs.Ytifoncmlelinjaa
open Go.RowKit Go.Sea
attribute [local go_sem] callK_N gf gk gdrop lkL setL lsF ltAll rdyL bodyF roundQ roundS loopQ loopS jumpOf inLs yV yA bAV zipPut purgeG List.tail_cons Option.isNone_none Option.isNone_some callGK_f callDK_f callDGK_f retN retHN blockA arun_nil arun_plain arun_guard plainF guardF guardB arunD_nil arunD_plain arunD_guard plainDF guardDF guardDB AS.ent Eff.noApp Eff.tgt ftF AV.refs TV.refs CV.refs LV.refs Op.operands Call.operands List.append_toArray List.push_toArray List.flatMap_cons List.flatMap_nil List.toList_toArray Option.toArray nidF nidA List.reverse_cons List.reverse_nil opF AS.ev constA lk AS.get AV.tv AV.nd AS.eff AS.put argEnv PT.tv PV.av AV.mbOf hset hget TV.cells dstOk thenA gB isB toB TV.bool? TV.int? intF loadF storeF fieldF indexF lenF sliceF optI appF minmaxF ipCells fillF partsF lvsF TV.lv LV.tv purgeE purgeC purgeH AV.purge CV.purge AV.has TV.has CV.has LV.has calleeF argsF tvsF toPT toIV toIVs toPTs toPV iA bA List.map_cons List.map_nil List.length_nil List.length_cons List.getElem?_cons_zero List.getElem?_cons_succ List.getElem?_nil Option.getD_some Option.getD_none Option.bind_some Option.bind_none List.take_succ_cons List.take_zero List.drop_succ_cons List.drop_zero List.take_nil List.drop_nil List.cons_append List.nil_append List.append_nil List.getD_cons_zero List.getD_cons_succ Option.map_some Option.map_none Option.isSome_some Option.isSome_none List.size_toArray List.any_cons List.any_nil List.mem_cons if_true if_false ite_true ite_false cond_true cond_false Nat.zero_add Nat.add_zero Nat.sub_zero Nat.le_refl Nat.zero_mul Nat.mul_zero Nat.one_mul Nat.mul_one Int.toNat_zero Int.toNat_natCast Bool.or_false Bool.false_or Bool.or_true Bool.true_or Bool.and_true Bool.true_and Bool.and_false Bool.false_and beq_self_eq_true beq_true beq_false Bool.not_true Bool.not_false and_true true_and and_false false_and and_self imp_self Bool.cond_false_right Bool.cond_true_left implies_true forall_const true_implies false_implies Option.some.injEq Prod.mk.injEq ne_eq not_false_eq_true not_true_eq_false eq_self Nat.lt_irrefl Nat.not_lt_zero op2F ncF slice3F offF slArrF copyF clearF toArrF callDK_t calleeT eqN barOp boF seaMin seaMax seaNat1 seaNat2 Value.bool.injEq Value.int.injEq srcF lstC TV.dp IV.eqv PT.eqv PV.eqv All2 keepE hupd callZ_N AS.frz AS.frzW frzs frzsOk frzOk frzE frzA frzT frzC frzG frzH hdel cmpS eqF eqC gvs eqVs eqV decide_true resF tupA inlQ okL okGL okG nextL wkH wkC wkV nilA nilC AV.ok TV.ok CV.ok LV.ok okB forall_eq_or_imp forall_eq List.not_mem_nil List.mem_singleton true_or or_true or_false false_or or_self exists_prop AV.t.injEq TV.one.injEq CV.iv.injEq IV.g.injEq TV.agg.injEq List.cons.injEq repC_0 repC_1 repC_2 repC_3 rowV_len rowV_pur rowV_has rowV_frz frzC isIv_iv civ_iv rowV_all List.map_append
theorem ar_22 : arD Try.prog 22 = none := by kernel_rfl
theorem ar_25 : arD Try.prog 25 = none := by kernel_rfl
theorem fnok_44 : fnOk Try.prog 44 = true := by kernel_rfl
theorem fnok_45 : fnOk Try.prog 45 = true := by kernel_rfl
theorem fnok_57 : fnOk Try.prog 57 = true := by kernel_rfl
theorem fnok_60 : fnOk Try.prog 60 = true := by kernel_rfl
theorem in_5 : inD Try.prog 5 = some .u8 := by kernel_rfl
theorem le_22 : lenD Try.prog 22 = some true := by kernel_rfl
theorem le_25 : lenD Try.prog 25 = some true := by kernel_rfl
theorem of_24_0 : offOf Try.prog 24 0 = some 0 := by kernel_rfl
theorem sl_22 : slD Try.prog 22 = some (1, 24, 25) := by kernel_rfl
theorem sl_25 : slD Try.prog 25 = some (1, 1, 5) := by kernel_rfl
theorem ty_22 : tyD Try.prog 22 = some (false, 1) := by kernel_rfl
theorem ty_25 : tyD Try.prog 25 = some (false, 1) := by kernel_rfl
theorem ty_3 : tyD Try.prog 3 = some (false, 1) := by kernel_rfl
theorem ty_5 : tyD Try.prog 5 = some (false, 1) := by kernel_rfl
theorem zc_5 : zeroC Try.prog 5 = some [.iv (.g (.int .u8 0))] := by kernel_rfl

def bytI (f : Nat → Int) (i o : Nat) : IV := .g (.int .u8 (f i))
def rowsI (m : Nat → Nat) (D : Nat → Nat → Int) (i o : Nat) : IV := .lst 1 (m i) (bytI (D i))
def secC (f : Nat → Int) : List CV := (List.range 64).map fun j => .iv (.g (.int .u8 (f j)))
def Byt (f : Nat → Int) : Prop := ∀ i, 0 ≤ f i ∧ f i < 256
/-- The first index with p, or -1. -/
def fstI (p : Nat → Bool) (n : Nat) : Nat → Int
  | 0 => -1
  | k + 1 => if p (n - (k + 1)) = true then ((n - (k + 1) : Nat) : Int) else fstI p n k
theorem fst_1 {p : Nat → Bool} {n k : Nat} (hk : k < n) (h : p k = true) : fstI p n (n - k) = k := by
  obtain ⟨j, hj⟩ : ∃ j, n - k = j + 1 := ⟨n - k - 1, by omega⟩
  rw [hj]; simp only [fstI]; rw [show n - (j + 1) = k by omega, if_pos h]
theorem fst_2 {p : Nat → Bool} {n k : Nat} (hk : k < n) (h : p k = false) : fstI p n (n - (k + 1)) = fstI p n (n - k) := by
  obtain ⟨j, hj⟩ : ∃ j, n - k = j + 1 := ⟨n - k - 1, by omega⟩
  rw [hj]; simp only [fstI]; rw [show n - (j + 1) = k by omega, if_neg (by simp [h]), show n - (k + 1) = j by omega]
theorem fst_b {p : Nat → Bool} (n : Nat) : ∀ k, k ≤ n → ((0 ≤ fstI p n k) ↔ ∃ i, n - k ≤ i ∧ i < n ∧ p i = true)
  | 0, _ => ⟨fun h => by simp [fstI] at h, fun ⟨i, h1, h2, _⟩ => by omega⟩
  | k + 1, hk => by
    simp only [fstI]
    by_cases h : p (n - (k + 1)) = true
    · rw [if_pos h]; exact ⟨fun _ => ⟨n - (k + 1), Nat.le_refl _, by omega, h⟩, fun _ => Int.natCast_nonneg _⟩
    · rw [if_neg h, fst_b n k (by omega)]
      refine ⟨fun ⟨i, h1, h2, h3⟩ => ⟨i, by omega, h2, h3⟩, fun ⟨i, h1, h2, h3⟩ => ⟨i, ?_, h2, h3⟩⟩
      rcases Nat.lt_or_ge i (n - k) with h4 | h4
      · obtain rfl : i = n - (k + 1) := by omega
        exact absurd h3 h
      · exact h4
def anyB (n : Nat) (p : Nat → Bool) : Bool := decide (∃ i, i < n ∧ p i = true)
theorem any_fst {n : Nat} {p : Nat → Bool} : decide (0 ≤ fstI p n n) = anyB n p := by
  unfold anyB
  rw [decide_eq_decide, fst_b n n (Nat.le_refl _), Nat.sub_self]
  exact ⟨fun ⟨i, _, h2, h3⟩ => ⟨i, h2, h3⟩, fun ⟨i, h2, h3⟩ => ⟨i, Nat.zero_le _, h2, h3⟩⟩
def badB (m : Nat → Nat) (i : Nat) : Bool := decide (m i ≠ 64)
def longB (m : Nat → Nat) (i : Nat) : Bool := decide (65535 < m i)
def M63 : Nat := 9223372036854775807
def sizedB (n : Nat) (m : Nat → Nat) : Bool := decide (3 ≤ n ∧ n ≤ 63 ∧ n % 2 = 1 ∧ ∀ i, i < n → m i = 64)
def formF (r : Nat) (R : Nat → Int) : Nat → Int
  | 0 => 1
  | 1 => (r : Int) / 256 % 256
  | 2 => (r : Int) % 256
  | i + 3 => R i
theorem wrap8 (x : Int) : IntKind.u8.wrap x = x % 256 := by
  unfold IntKind.wrap IntKind.signed IntKind.bits
  simp only
  split <;> simp_all <;> omega
theorem shr8 (x : Int) : x.fdiv (2 ^ min (Int.toNat 8) 64) = x / 256 := Int.fdiv_eq_ediv_of_nonneg _ (by decide)
theorem any_fst' {n : Nat} {p : Nat → Bool} : decide (fstI p n n ≥ 0) = anyB n p := any_fst

set_option maxRecDepth 100000 in
set_option maxHeartbeats 4000000 in
theorem bad_p (r : Nat) (R : Nat → Int) (hr : r ≤ 9223372036854775807) : CallsP Try.prog 60 [.one (.lst 1 (r) (bytI (R)))] (.t (.one (.g (.bool (decide (r ≠ 64)))))) := by
  refine CallsP_of Try.func60 rfl (by rw [Try.ntmps60]; simp) ?_
  simp only [Try.ntmps60, List.map_cons, List.map_nil, PT.tv, argEnv, Nat.zero_add, Nat.reduceAdd]
  repeat' (first
    | (with_reducible refine AW_seq_k fun K hK => ?_)
    | ((first | (with_reducible refine And.intro ?_ ?_) | (with_reducible refine Need.mk ?_)); focus (first | exact True.intro | (with_reducible assumption) | omega | (refine ⟨?_, ?_⟩ <;> omega) | (intro _; first | exact True.intro | (with_reducible assumption) | omega) | (intros; (repeat' (first | exact True.intro | omega | (with_reducible assumption) | (with_reducible refine And.intro ?_ ?_))); done) | (simp (disch := omega) only [Bool.and_eq_true, Bool.or_eq_true, decide_eq_true_eq, bne_iff_ne, ne_eq] at *; first | done | omega | (intros; omega)) | (simp; done) | (simp; omega) | (simp +contextual; done) | (intro h; rw [h]; rfl) | (intros; simp_all; done)))
    | (with_reducible refine AW_skip ?_)
    | (with_reducible refine AW_exit ?_)
    | (with_reducible refine AW_ret ?_)
    | (with_reducible refine retK_n ?_)
    | (with_reducible refine retK_n' ?_)
    | (with_reducible refine retH_n rfl rfl rfl ?_)
    | (with_reducible refine retH_n' rfl rfl rfl ?_)
    | (with_reducible refine AW_condI ?_)
    | (with_reducible refine AW_block ?_)
    | ((with_reducible refine condN_t ?_ ?_) <;> (intro hc; (try simp only [Bool.and_eq_true, Bool.or_eq_true, Bool.not_eq_true', Bool.and_eq_false_iff, Bool.or_eq_false_iff, decide_eq_true_eq, decide_eq_false_iff_not, bne_iff_ne, beq_iff_eq, reduceCtorEq, bne_eq_false_iff_eq, beq_eq_false_iff_ne, Bool.not_eq_false', Int.not_le, Int.not_lt, Bool.not_not] at hc); (try (exfalso; first | contradiction | omega))))
    | (with_reducible refine AW_regionP 0 [0] ?_)
    | (with_reducible refine AW_regionP 1 [0] ?_)
    | ((fail_if_success (with_reducible show AW _ _ _ _)); simp (maxSteps := 2000000) only [go_sem, reduceIte, reduceCtorEq, Nat.reduceAdd, Nat.reduceLT, Nat.reduceLeDiff, Nat.reduceEqDiff, Nat.reduceMul, Nat.reduceSub, Nat.reduceBEq, Try.f60, le_25, bytI, rowsI])
    | ((with_reducible refine hK _ ?_); clear hK K))
  all_goals ((try refine Bool.eq_iff_iff.2 ?_); (simp only [Bool.and_eq_true, Bool.or_eq_true, Bool.not_eq_true', decide_eq_true_eq, decide_eq_false_iff_not, bne_iff_ne, beq_iff_eq, ne_eq, ge_iff_le, gt_iff_lt, cond_eq_ite, iff_self, eq_self]; first | done | omega))

set_option maxRecDepth 100000 in
set_option maxHeartbeats 4000000 in
theorem long_p (r : Nat) (R : Nat → Int) (hr : r ≤ 9223372036854775807) : CallsP Try.prog 44 [.one (.lst 1 (r) (bytI (R)))] (.t (.one (.g (.bool (decide (65535 < r)))))) := by
  refine CallsP_of Try.func44 rfl (by rw [Try.ntmps44]; simp) ?_
  simp only [Try.ntmps44, List.map_cons, List.map_nil, PT.tv, argEnv, Nat.zero_add, Nat.reduceAdd]
  repeat' (first
    | (with_reducible refine AW_seq_k fun K hK => ?_)
    | ((first | (with_reducible refine And.intro ?_ ?_) | (with_reducible refine Need.mk ?_)); focus (first | exact True.intro | (with_reducible assumption) | omega | (refine ⟨?_, ?_⟩ <;> omega) | (intro _; first | exact True.intro | (with_reducible assumption) | omega) | (intros; (repeat' (first | exact True.intro | omega | (with_reducible assumption) | (with_reducible refine And.intro ?_ ?_))); done) | (simp (disch := omega) only [Bool.and_eq_true, Bool.or_eq_true, decide_eq_true_eq, bne_iff_ne, ne_eq] at *; first | done | omega | (intros; omega)) | (simp; done) | (simp; omega) | (simp +contextual; done) | (intro h; rw [h]; rfl) | (intros; simp_all; done)))
    | (with_reducible refine AW_skip ?_)
    | (with_reducible refine AW_exit ?_)
    | (with_reducible refine AW_ret ?_)
    | (with_reducible refine retK_n ?_)
    | (with_reducible refine retK_n' ?_)
    | (with_reducible refine retH_n rfl rfl rfl ?_)
    | (with_reducible refine retH_n' rfl rfl rfl ?_)
    | (with_reducible refine AW_condI ?_)
    | (with_reducible refine AW_block ?_)
    | ((with_reducible refine condN_t ?_ ?_) <;> (intro hc; (try simp only [Bool.and_eq_true, Bool.or_eq_true, Bool.not_eq_true', Bool.and_eq_false_iff, Bool.or_eq_false_iff, decide_eq_true_eq, decide_eq_false_iff_not, bne_iff_ne, beq_iff_eq, reduceCtorEq, bne_eq_false_iff_eq, beq_eq_false_iff_ne, Bool.not_eq_false', Int.not_le, Int.not_lt, Bool.not_not] at hc); (try (exfalso; first | contradiction | omega))))
    | (with_reducible refine AW_regionP 0 [0] ?_)
    | (with_reducible refine AW_regionP 1 [0] ?_)
    | ((fail_if_success (with_reducible show AW _ _ _ _)); simp (maxSteps := 2000000) only [go_sem, reduceIte, reduceCtorEq, Nat.reduceAdd, Nat.reduceLT, Nat.reduceLeDiff, Nat.reduceEqDiff, Nat.reduceMul, Nat.reduceSub, Nat.reduceBEq, Try.f44, le_25, bytI, rowsI])
    | ((with_reducible refine hK _ ?_); clear hK K))
  all_goals ((try refine Bool.eq_iff_iff.2 ?_); (simp only [Bool.and_eq_true, Bool.or_eq_true, Bool.not_eq_true', decide_eq_true_eq, decide_eq_false_iff_not, bne_iff_ne, beq_iff_eq, ne_eq, ge_iff_le, gt_iff_lt, cond_eq_ite, iff_self, eq_self]; first | done | omega))

set_option maxRecDepth 100000 in
set_option maxHeartbeats 4000000 in
theorem rrec_p (r : Nat) (R : Nat → Int) (hr : r ≤ 9223372036854775807) : CallsP Try.prog 41 [.one (.lst 1 (r) (bytI (R)))] (.t (.one (.g (.bool (decide (r ≤ 65535)))))) := by
  refine CallsP_of Try.func41 rfl (by rw [Try.ntmps41]; simp) ?_
  simp only [Try.ntmps41, List.map_cons, List.map_nil, PT.tv, argEnv, Nat.zero_add, Nat.reduceAdd]
  repeat' (first
    | (with_reducible refine AW_seq_k fun K hK => ?_)
    | ((first | (with_reducible refine And.intro ?_ ?_) | (with_reducible refine Need.mk ?_)); focus (first | exact True.intro | (with_reducible assumption) | omega | (refine ⟨?_, ?_⟩ <;> omega) | (intro _; first | exact True.intro | (with_reducible assumption) | omega) | (intros; (repeat' (first | exact True.intro | omega | (with_reducible assumption) | (with_reducible refine And.intro ?_ ?_))); done) | (simp (disch := omega) only [Bool.and_eq_true, Bool.or_eq_true, decide_eq_true_eq, bne_iff_ne, ne_eq] at *; first | done | omega | (intros; omega)) | (simp; done) | (simp; omega) | (simp +contextual; done) | (intro h; rw [h]; rfl) | (intros; simp_all; done)))
    | (with_reducible refine AW_skip ?_)
    | (with_reducible refine AW_exit ?_)
    | (with_reducible refine AW_ret ?_)
    | (with_reducible refine retK_n ?_)
    | (with_reducible refine retK_n' ?_)
    | (with_reducible refine retH_n rfl rfl rfl ?_)
    | (with_reducible refine retH_n' rfl rfl rfl ?_)
    | (with_reducible refine AW_condI ?_)
    | (with_reducible refine AW_block ?_)
    | ((with_reducible refine condN_t ?_ ?_) <;> (intro hc; (try simp only [Bool.and_eq_true, Bool.or_eq_true, Bool.not_eq_true', Bool.and_eq_false_iff, Bool.or_eq_false_iff, decide_eq_true_eq, decide_eq_false_iff_not, bne_iff_ne, beq_iff_eq, reduceCtorEq, bne_eq_false_iff_eq, beq_eq_false_iff_ne, Bool.not_eq_false', Int.not_le, Int.not_lt, Bool.not_not] at hc); (try (exfalso; first | contradiction | omega))))
    | (with_reducible refine AW_regionP 0 [0] ?_)
    | (with_reducible refine AW_regionP 1 [0] ?_)
    | ((fail_if_success (with_reducible show AW _ _ _ _)); simp (maxSteps := 2000000) only [go_sem, reduceIte, reduceCtorEq, Nat.reduceAdd, Nat.reduceLT, Nat.reduceLeDiff, Nat.reduceEqDiff, Nat.reduceMul, Nat.reduceSub, Nat.reduceBEq, Try.f41, le_25, bytI, rowsI])
    | ((with_reducible refine hK _ ?_); clear hK K))
  all_goals ((try refine Bool.eq_iff_iff.2 ?_); (simp only [Bool.and_eq_true, Bool.or_eq_true, Bool.not_eq_true', decide_eq_true_eq, decide_eq_false_iff_not, bne_iff_ne, beq_iff_eq, ne_eq, ge_iff_le, gt_iff_lt, cond_eq_ite, iff_self, eq_self]; first | done | omega))

set_option maxRecDepth 100000 in
set_option maxHeartbeats 4000000 in
theorem ixBad_p (n : Nat) (m : Nat → Nat) (D : Nat → Nat → Int) (hn : n ≤ 9223372036854775807) (hm : ∀ i, i < n → m i ≤ 9223372036854775807) : CallsP Try.prog 57 [.one (.lst 1 (n) (rowsI (m) (D))), .one (.g (.func (.func 60) #[] #[]))] (.t (.one (.g (.int .i64 (fstI (badB m) n n))))) := by
  refine CallsP_of Try.func57 rfl (by rw [Try.ntmps57]; simp) ?_
  simp only [Try.ntmps57, List.map_cons, List.map_nil, PT.tv, argEnv, Nat.zero_add, Nat.reduceAdd]
  repeat' (first
    | (with_reducible refine AW_seq_k fun K hK => ?_)
    | ((first | (with_reducible refine And.intro ?_ ?_) | (with_reducible refine Need.mk ?_)); focus (first | exact True.intro | (with_reducible assumption) | omega | (refine ⟨?_, ?_⟩ <;> omega) | (intro _; first | exact True.intro | (with_reducible assumption) | omega) | (intros; (repeat' (first | exact True.intro | omega | (with_reducible assumption) | (with_reducible refine And.intro ?_ ?_))); done) | (simp (disch := omega) only [Bool.and_eq_true, Bool.or_eq_true, decide_eq_true_eq, bne_iff_ne, ne_eq] at *; first | done | omega | (intros; omega)) | (simp; done) | (simp; omega) | (simp +contextual; done) | (intro h; rw [h]; rfl) | (intros; simp_all; done)))
    | (with_reducible refine AW_skip ?_)
    | (with_reducible refine AW_exit ?_)
    | (with_reducible refine AW_ret ?_)
    | (with_reducible refine retK_n ?_)
    | (with_reducible refine retK_n' ?_)
    | (with_reducible refine retH_n rfl rfl rfl ?_)
    | (with_reducible refine retH_n' rfl rfl rfl ?_)
    | (with_reducible refine AW_condI ?_)
    | (with_reducible refine AW_block ?_)
    | ((with_reducible refine condN_t ?_ ?_) <;> (intro hc; (try simp only [Bool.and_eq_true, Bool.or_eq_true, Bool.not_eq_true', Bool.and_eq_false_iff, Bool.or_eq_false_iff, decide_eq_true_eq, decide_eq_false_iff_not, bne_iff_ne, beq_iff_eq, reduceCtorEq, bne_eq_false_iff_eq, beq_eq_false_iff_ne, Bool.not_eq_false', Int.not_le, Int.not_lt, Bool.not_not] at hc); (skip); (try (exfalso; first | contradiction | omega))))
    | (with_reducible refine AW_regionP 0 [0, 1] ?_)
    | (with_reducible refine AW_regionP 1 [0, 1] ?_)
    | (with_reducible refine AW_regionP 2 [0, 1, 7, 8] ?_)
    | (with_reducible refine AW_regionP 3 [0, 1, 7, 8] ?_)
    | (with_reducible refine AW_regionP 4 [0, 1, 5, 7, 8] ?_)
    | (with_reducible refine AW_regionP 5 [5] ?_)
    | (with_reducible refine AW_regionP 6 [0, 1, 7, 8] ?_)
    | (with_reducible refine AW_regionP 7 [] ?_)
    | (refine callN_q (k := 60) fnok_60 (bad_p _ _ (hm k (by omega))) ?_ ?_)
    | (refine callDN_q (k := 60) fnok_60 (bad_p _ _ (hm k (by omega))) ?_ ?_)
    | (refine callDGN_q (k := 60) fnok_60 (fun hg => bad_p _ _ (hm k (by omega))) ?_ ?_)
    | (refine callGN_q (k := 60) fnok_60 (fun hg => bad_p _ _ (hm k (by omega))) ?_ ?_)
    | ((with_reducible refine AW_loopQ (c := (Code.seq (Code.region 2 _ _) _)) (ι := Nat) [0, 1, 7] (fun k => [(8, iA .i64 (k : Int))]) (fun k => []) (fun k => k ≤ n ∧ fstI (badB m) n (n - k) = fstI (badB m) n n) (fun k => n - k) 0 ?lg2 ?l12 ?l22 ?li2 ?lr2); (case' lg2 => rintro k _); (case' li2 => try exact ⟨Nat.zero_le _, by rw [Nat.sub_zero]⟩); (case' lr2 => rintro k ⟨h1, h2⟩ KR hR2; skip; simp only [keepE, hupd, hset, lk, if_true, if_false, Nat.reduceEqDiff, reduceIte, List.cons_append, List.nil_append, bytI, rowsI]))
    | ((with_reducible refine hR2 _ (k + 1) ?_); (try clear hR2 KR))
    | ((with_reducible refine Told.mk ?_); simp only [go_sem, reduceIte, reduceCtorEq, Nat.reduceAdd, Nat.reduceLT, Nat.reduceLeDiff, Nat.reduceEqDiff, Nat.reduceMul, Nat.reduceSub, Nat.reduceBEq, bytI, rowsI] <;> (first | exact True.intro | (((try simp (disch := omega) only [seaWrap, Int.natCast_add, Int.cast_ofNat_Int, and_true, true_and, and_self]); (repeat' (first | exact True.intro | omega | rfl | (with_reducible assumption) | (with_reducible refine And.intro ?_ ?_) | (exact all_succ (by assumption) (by assumption)) | (exact (fst_2 (by omega) (by simpa [badB, longB] using hc)).trans (by assumption)))); done)) | (refine Stuck.out ?_)))
    | ((fail_if_success (with_reducible show AW _ _ _ _)); simp (maxSteps := 2000000) only [go_sem, reduceIte, reduceCtorEq, Nat.reduceAdd, Nat.reduceLT, Nat.reduceLeDiff, Nat.reduceEqDiff, Nat.reduceMul, Nat.reduceSub, Nat.reduceBEq, Try.f57, le_22, sl_22, ar_22, ty_25, bytI, rowsI])
    | ((fail_if_success (with_reducible show AW _ _ _ _)); simp (disch := omega) only [seaWrap, seaDiv, seaMod])
    | ((with_reducible refine hK _ ?_); clear hK K)
    | (with_reducible apply_assumption -exfalso only [*]))
  all_goals (rw [← h2]; first | (rw [fst_1 (by omega) (by simpa [badB, longB] using hc)]; done) | (obtain rfl : k = n := (by omega); rw [Nat.sub_self]; rfl))

set_option maxRecDepth 100000 in
set_option maxHeartbeats 4000000 in
theorem hasBad_p (n : Nat) (m : Nat → Nat) (D : Nat → Nat → Int) (hn : n ≤ 9223372036854775807) (hm : ∀ i, i < n → m i ≤ 9223372036854775807) : CallsP Try.prog 45 [.one (.lst 1 (n) (rowsI (m) (D))), .one (.g (.func (.func 60) #[] #[]))] (.t (.one (.g (.bool (anyB n (badB m)))))) := by
  refine CallsP_of Try.func45 rfl (by rw [Try.ntmps45]; simp) ?_
  simp only [Try.ntmps45, List.map_cons, List.map_nil, PT.tv, argEnv, Nat.zero_add, Nat.reduceAdd]
  repeat' (first
    | (with_reducible refine AW_seq_k fun K hK => ?_)
    | ((first | (with_reducible refine And.intro ?_ ?_) | (with_reducible refine Need.mk ?_)); focus (first | exact True.intro | (with_reducible assumption) | omega | (refine ⟨?_, ?_⟩ <;> omega) | (intro _; first | exact True.intro | (with_reducible assumption) | omega) | (intros; (repeat' (first | exact True.intro | omega | (with_reducible assumption) | (with_reducible refine And.intro ?_ ?_))); done) | (simp (disch := omega) only [Bool.and_eq_true, Bool.or_eq_true, decide_eq_true_eq, bne_iff_ne, ne_eq] at *; first | done | omega | (intros; omega)) | (simp; done) | (simp; omega) | (simp +contextual; done) | (intro h; rw [h]; rfl) | (intros; simp_all; done)))
    | (with_reducible refine AW_skip ?_)
    | (with_reducible refine AW_exit ?_)
    | (with_reducible refine AW_ret ?_)
    | (with_reducible refine retK_n ?_)
    | (with_reducible refine retK_n' ?_)
    | (with_reducible refine retH_n rfl rfl rfl ?_)
    | (with_reducible refine retH_n' rfl rfl rfl ?_)
    | (with_reducible refine AW_condI ?_)
    | (with_reducible refine AW_block ?_)
    | ((with_reducible refine condN_t ?_ ?_) <;> (intro hc; (try simp only [Bool.and_eq_true, Bool.or_eq_true, Bool.not_eq_true', Bool.and_eq_false_iff, Bool.or_eq_false_iff, decide_eq_true_eq, decide_eq_false_iff_not, bne_iff_ne, beq_iff_eq, reduceCtorEq, bne_eq_false_iff_eq, beq_eq_false_iff_ne, Bool.not_eq_false', Int.not_le, Int.not_lt, Bool.not_not] at hc); (try (exfalso; first | contradiction | omega))))
    | (with_reducible refine AW_regionP 0 [0, 1] ?_)
    | (with_reducible refine AW_regionP 1 [0, 1] ?_)
    | (refine callN_q (k := 57) fnok_57 (ixBad_p n m D hn hm) ?_ ?_)
    | ((fail_if_success (with_reducible show AW _ _ _ _)); simp (maxSteps := 2000000) only [go_sem, reduceIte, reduceCtorEq, Nat.reduceAdd, Nat.reduceLT, Nat.reduceLeDiff, Nat.reduceEqDiff, Nat.reduceMul, Nat.reduceSub, Nat.reduceBEq, Try.f45, fnok_57, bytI, rowsI, any_fst'])
    | ((with_reducible refine hK _ ?_); clear hK K))
  all_goals (first | rfl | exact any_fst)

set_option maxRecDepth 100000 in
set_option maxHeartbeats 4000000 in
theorem ixLong_p (n : Nat) (m : Nat → Nat) (D : Nat → Nat → Int) (hn : n ≤ 9223372036854775807) (hm : ∀ i, i < n → m i ≤ 9223372036854775807) : CallsP Try.prog 57 [.one (.lst 1 (n) (rowsI (m) (D))), .one (.g (.func (.func 44) #[] #[]))] (.t (.one (.g (.int .i64 (fstI (longB m) n n))))) := by
  refine CallsP_of Try.func57 rfl (by rw [Try.ntmps57]; simp) ?_
  simp only [Try.ntmps57, List.map_cons, List.map_nil, PT.tv, argEnv, Nat.zero_add, Nat.reduceAdd]
  repeat' (first
    | (with_reducible refine AW_seq_k fun K hK => ?_)
    | ((first | (with_reducible refine And.intro ?_ ?_) | (with_reducible refine Need.mk ?_)); focus (first | exact True.intro | (with_reducible assumption) | omega | (refine ⟨?_, ?_⟩ <;> omega) | (intro _; first | exact True.intro | (with_reducible assumption) | omega) | (intros; (repeat' (first | exact True.intro | omega | (with_reducible assumption) | (with_reducible refine And.intro ?_ ?_))); done) | (simp (disch := omega) only [Bool.and_eq_true, Bool.or_eq_true, decide_eq_true_eq, bne_iff_ne, ne_eq] at *; first | done | omega | (intros; omega)) | (simp; done) | (simp; omega) | (simp +contextual; done) | (intro h; rw [h]; rfl) | (intros; simp_all; done)))
    | (with_reducible refine AW_skip ?_)
    | (with_reducible refine AW_exit ?_)
    | (with_reducible refine AW_ret ?_)
    | (with_reducible refine retK_n ?_)
    | (with_reducible refine retK_n' ?_)
    | (with_reducible refine retH_n rfl rfl rfl ?_)
    | (with_reducible refine retH_n' rfl rfl rfl ?_)
    | (with_reducible refine AW_condI ?_)
    | (with_reducible refine AW_block ?_)
    | ((with_reducible refine condN_t ?_ ?_) <;> (intro hc; (try simp only [Bool.and_eq_true, Bool.or_eq_true, Bool.not_eq_true', Bool.and_eq_false_iff, Bool.or_eq_false_iff, decide_eq_true_eq, decide_eq_false_iff_not, bne_iff_ne, beq_iff_eq, reduceCtorEq, bne_eq_false_iff_eq, beq_eq_false_iff_ne, Bool.not_eq_false', Int.not_le, Int.not_lt, Bool.not_not] at hc); (skip); (try (exfalso; first | contradiction | omega))))
    | (with_reducible refine AW_regionP 0 [0, 1] ?_)
    | (with_reducible refine AW_regionP 1 [0, 1] ?_)
    | (with_reducible refine AW_regionP 2 [0, 1, 7, 8] ?_)
    | (with_reducible refine AW_regionP 3 [0, 1, 7, 8] ?_)
    | (with_reducible refine AW_regionP 4 [0, 1, 5, 7, 8] ?_)
    | (with_reducible refine AW_regionP 5 [5] ?_)
    | (with_reducible refine AW_regionP 6 [0, 1, 7, 8] ?_)
    | (with_reducible refine AW_regionP 7 [] ?_)
    | (refine callN_q (k := 44) fnok_44 (long_p _ _ (hm k (by omega))) ?_ ?_)
    | (refine callDN_q (k := 44) fnok_44 (long_p _ _ (hm k (by omega))) ?_ ?_)
    | (refine callDGN_q (k := 44) fnok_44 (fun hg => long_p _ _ (hm k (by omega))) ?_ ?_)
    | (refine callGN_q (k := 44) fnok_44 (fun hg => long_p _ _ (hm k (by omega))) ?_ ?_)
    | ((with_reducible refine AW_loopQ (c := (Code.seq (Code.region 2 _ _) _)) (ι := Nat) [0, 1, 7] (fun k => [(8, iA .i64 (k : Int))]) (fun k => []) (fun k => k ≤ n ∧ fstI (longB m) n (n - k) = fstI (longB m) n n) (fun k => n - k) 0 ?lg2 ?l12 ?l22 ?li2 ?lr2); (case' lg2 => rintro k _); (case' li2 => try exact ⟨Nat.zero_le _, by rw [Nat.sub_zero]⟩); (case' lr2 => rintro k ⟨h1, h2⟩ KR hR2; skip; simp only [keepE, hupd, hset, lk, if_true, if_false, Nat.reduceEqDiff, reduceIte, List.cons_append, List.nil_append, bytI, rowsI]))
    | ((with_reducible refine hR2 _ (k + 1) ?_); (try clear hR2 KR))
    | ((with_reducible refine Told.mk ?_); simp only [go_sem, reduceIte, reduceCtorEq, Nat.reduceAdd, Nat.reduceLT, Nat.reduceLeDiff, Nat.reduceEqDiff, Nat.reduceMul, Nat.reduceSub, Nat.reduceBEq, bytI, rowsI] <;> (first | exact True.intro | (((try simp (disch := omega) only [seaWrap, Int.natCast_add, Int.cast_ofNat_Int, and_true, true_and, and_self]); (repeat' (first | exact True.intro | omega | rfl | (with_reducible assumption) | (with_reducible refine And.intro ?_ ?_) | (exact all_succ (by assumption) (by assumption)) | (exact (fst_2 (by omega) (by simpa [badB, longB] using hc)).trans (by assumption)))); done)) | (refine Stuck.out ?_)))
    | ((fail_if_success (with_reducible show AW _ _ _ _)); simp (maxSteps := 2000000) only [go_sem, reduceIte, reduceCtorEq, Nat.reduceAdd, Nat.reduceLT, Nat.reduceLeDiff, Nat.reduceEqDiff, Nat.reduceMul, Nat.reduceSub, Nat.reduceBEq, Try.f57, le_22, sl_22, ar_22, ty_25, bytI, rowsI])
    | ((fail_if_success (with_reducible show AW _ _ _ _)); simp (disch := omega) only [seaWrap, seaDiv, seaMod])
    | ((with_reducible refine hK _ ?_); clear hK K)
    | (with_reducible apply_assumption -exfalso only [*]))
  all_goals (rw [← h2]; first | (rw [fst_1 (by omega) (by simpa [badB, longB] using hc)]; done) | (obtain rfl : k = n := (by omega); rw [Nat.sub_self]; rfl))

set_option maxRecDepth 100000 in
set_option maxHeartbeats 4000000 in
theorem hasLong_p (n : Nat) (m : Nat → Nat) (D : Nat → Nat → Int) (hn : n ≤ 9223372036854775807) (hm : ∀ i, i < n → m i ≤ 9223372036854775807) : CallsP Try.prog 45 [.one (.lst 1 (n) (rowsI (m) (D))), .one (.g (.func (.func 44) #[] #[]))] (.t (.one (.g (.bool (anyB n (longB m)))))) := by
  refine CallsP_of Try.func45 rfl (by rw [Try.ntmps45]; simp) ?_
  simp only [Try.ntmps45, List.map_cons, List.map_nil, PT.tv, argEnv, Nat.zero_add, Nat.reduceAdd]
  repeat' (first
    | (with_reducible refine AW_seq_k fun K hK => ?_)
    | ((first | (with_reducible refine And.intro ?_ ?_) | (with_reducible refine Need.mk ?_)); focus (first | exact True.intro | (with_reducible assumption) | omega | (refine ⟨?_, ?_⟩ <;> omega) | (intro _; first | exact True.intro | (with_reducible assumption) | omega) | (intros; (repeat' (first | exact True.intro | omega | (with_reducible assumption) | (with_reducible refine And.intro ?_ ?_))); done) | (simp (disch := omega) only [Bool.and_eq_true, Bool.or_eq_true, decide_eq_true_eq, bne_iff_ne, ne_eq] at *; first | done | omega | (intros; omega)) | (simp; done) | (simp; omega) | (simp +contextual; done) | (intro h; rw [h]; rfl) | (intros; simp_all; done)))
    | (with_reducible refine AW_skip ?_)
    | (with_reducible refine AW_exit ?_)
    | (with_reducible refine AW_ret ?_)
    | (with_reducible refine retK_n ?_)
    | (with_reducible refine retK_n' ?_)
    | (with_reducible refine retH_n rfl rfl rfl ?_)
    | (with_reducible refine retH_n' rfl rfl rfl ?_)
    | (with_reducible refine AW_condI ?_)
    | (with_reducible refine AW_block ?_)
    | ((with_reducible refine condN_t ?_ ?_) <;> (intro hc; (try simp only [Bool.and_eq_true, Bool.or_eq_true, Bool.not_eq_true', Bool.and_eq_false_iff, Bool.or_eq_false_iff, decide_eq_true_eq, decide_eq_false_iff_not, bne_iff_ne, beq_iff_eq, reduceCtorEq, bne_eq_false_iff_eq, beq_eq_false_iff_ne, Bool.not_eq_false', Int.not_le, Int.not_lt, Bool.not_not] at hc); (try (exfalso; first | contradiction | omega))))
    | (with_reducible refine AW_regionP 0 [0, 1] ?_)
    | (with_reducible refine AW_regionP 1 [0, 1] ?_)
    | (refine callN_q (k := 57) fnok_57 (ixLong_p n m D hn hm) ?_ ?_)
    | ((fail_if_success (with_reducible show AW _ _ _ _)); simp (maxSteps := 2000000) only [go_sem, reduceIte, reduceCtorEq, Nat.reduceAdd, Nat.reduceLT, Nat.reduceLeDiff, Nat.reduceEqDiff, Nat.reduceMul, Nat.reduceSub, Nat.reduceBEq, Try.f45, fnok_57, bytI, rowsI, any_fst'])
    | ((with_reducible refine hK _ ?_); clear hK K))
  all_goals (first | rfl | exact any_fst)

set_option maxRecDepth 100000 in
set_option maxHeartbeats 4000000 in
theorem sized_p (n : Nat) (m : Nat → Nat) (D : Nat → Nat → Int) (hn : n ≤ 9223372036854775807) (hm : ∀ i, i < n → m i ≤ 9223372036854775807) : CallsP Try.prog 52 [.agg [.lst 1 (n) (rowsI (m) (D))]] (.t (.one (.g (.bool (sizedB n m))))) := by
  refine CallsP_of Try.func52 rfl (by rw [Try.ntmps52]; simp) ?_
  simp only [Try.ntmps52, List.map_cons, List.map_nil, PT.tv, argEnv, Nat.zero_add, Nat.reduceAdd]
  repeat' (first
    | (with_reducible refine AW_seq_k fun K hK => ?_)
    | ((first | (with_reducible refine And.intro ?_ ?_) | (with_reducible refine Need.mk ?_)); focus (first | exact True.intro | (with_reducible assumption) | omega | (refine ⟨?_, ?_⟩ <;> omega) | (intro _; first | exact True.intro | (with_reducible assumption) | omega) | (intros; (repeat' (first | exact True.intro | omega | (with_reducible assumption) | (with_reducible refine And.intro ?_ ?_))); done) | (simp (disch := omega) only [Bool.and_eq_true, Bool.or_eq_true, decide_eq_true_eq, bne_iff_ne, ne_eq] at *; first | done | omega | (intros; omega)) | (simp; done) | (simp; omega) | (simp +contextual; done) | (intro h; rw [h]; rfl) | (intros; simp_all; done)))
    | (with_reducible refine AW_skip ?_)
    | (with_reducible refine AW_exit ?_)
    | (with_reducible refine AW_ret ?_)
    | (with_reducible refine retK_n ?_)
    | (with_reducible refine retK_n' ?_)
    | (with_reducible refine retH_n rfl rfl rfl ?_)
    | (with_reducible refine retH_n' rfl rfl rfl ?_)
    | (with_reducible refine AW_condI ?_)
    | (with_reducible refine AW_block ?_)
    | ((with_reducible refine condN_t ?_ ?_) <;> (intro hc; (try simp only [Bool.and_eq_true, Bool.or_eq_true, Bool.not_eq_true', Bool.and_eq_false_iff, Bool.or_eq_false_iff, decide_eq_true_eq, decide_eq_false_iff_not, bne_iff_ne, beq_iff_eq, reduceCtorEq, bne_eq_false_iff_eq, beq_eq_false_iff_ne, Bool.not_eq_false', Int.not_le, Int.not_lt, Bool.not_not] at hc); (try (exfalso; first | contradiction | omega))))
    | (with_reducible refine AW_regionP 0 [0] ?_)
    | (with_reducible refine AW_regionP 1 [1] ?_)
    | (with_reducible refine AW_regionP 2 [1, 3] ?_)
    | (with_reducible refine AW_regionP 3 [1, 3, 4] ?_)
    | (refine callGN_q (k := 45) fnok_45 (fun hg => hasBad_p n m D hn hm) ?_ ?_)
    | ((fail_if_success (with_reducible show AW _ _ _ _)); simp (maxSteps := 2000000) only [go_sem, reduceIte, reduceCtorEq, Nat.reduceAdd, Nat.reduceLT, Nat.reduceLeDiff, Nat.reduceEqDiff, Nat.reduceMul, Nat.reduceSub, Nat.reduceBEq, Try.f52, of_24_0, ty_22, le_22, fnok_45, bytI, rowsI])
    | ((fail_if_success (with_reducible show AW _ _ _ _)); simp (disch := omega) only [seaWrap, seaDiv, seaMod])
    | ((with_reducible refine hK _ ?_); clear hK K))
  all_goals (unfold sizedB anyB badB; refine Bool.eq_iff_iff.2 ?_; simp only [Bool.and_eq_true, Bool.not_eq_true', decide_eq_true_eq, decide_eq_false_iff_not, beq_iff_eq, cond_eq_ite, ne_eq, ge_iff_le])
  all_goals (constructor)
  all_goals (first
    | (rintro ⟨⟨⟨h1, h2⟩, h3⟩, h4⟩; refine ⟨by omega, by omega, by omega, fun i hi => Classical.byContradiction fun h => h4 ⟨i, hi, h⟩⟩)
    | (rintro ⟨h1, h2, h3, h4⟩; refine ⟨⟨⟨by omega, by omega⟩, by omega⟩, fun ⟨i, hi, h⟩ => h (h4 i hi)⟩))

set_option maxRecDepth 100000 in
set_option maxHeartbeats 4000000 in
theorem form_p (r : Nat) (R : Nat → Int) (hr : r + 3 ≤ 140737488355328) : CallsP Try.prog 46 [.one (.lst 1 (r) (bytI (R)))] (.t (.one (.lst 1 (r + 3) (bytI (formF r R))))) := by
  refine CallsP_of Try.func46 rfl (by rw [Try.ntmps46]; simp) ?_
  simp only [Try.ntmps46, List.map_cons, List.map_nil, PT.tv, argEnv, Nat.zero_add, Nat.reduceAdd]
  repeat' (first
    | (refine callK_shr rfl rfl (by omega) ?_)
    | (refine callK_shl rfl rfl (by omega) ?_)
    | (refine callDK_shl rfl rfl (by omega) ?_)
    | (with_reducible refine AW_seq_k fun K hK => ?_)
    | ((first | (with_reducible refine And.intro ?_ ?_) | (with_reducible refine Need.mk ?_)); focus (first | exact True.intro | (with_reducible assumption) | omega | (refine ⟨?_, ?_⟩ <;> omega) | (intro _; first | exact True.intro | (with_reducible assumption) | omega) | (intros; (repeat' (first | exact True.intro | omega | (with_reducible assumption) | (with_reducible refine And.intro ?_ ?_))); done) | (simp (disch := omega) only [Bool.and_eq_true, Bool.or_eq_true, decide_eq_true_eq, bne_iff_ne, ne_eq] at *; first | done | omega | (intros; omega)) | (simp; done) | (simp; omega) | (simp +contextual; done) | (intro h; rw [h]; rfl) | (intros; simp_all; done)))
    | (with_reducible refine AW_skip ?_)
    | (with_reducible refine AW_exit ?_)
    | (with_reducible refine AW_ret ?_)
    | (with_reducible refine retK_n ?_)
    | (with_reducible refine retK_n' ?_)
    | (with_reducible refine retH_n rfl rfl rfl ?_)
    | (with_reducible refine retH_n' rfl rfl rfl ?_)
    | (with_reducible refine AW_condI ?_)
    | (with_reducible refine AW_block ?_)
    | ((with_reducible refine condN_t ?_ ?_) <;> (intro hc; (try simp only [Bool.and_eq_true, Bool.or_eq_true, Bool.not_eq_true', Bool.and_eq_false_iff, Bool.or_eq_false_iff, decide_eq_true_eq, decide_eq_false_iff_not, bne_iff_ne, beq_iff_eq, reduceCtorEq, bne_eq_false_iff_eq, beq_eq_false_iff_ne, Bool.not_eq_false', Int.not_le, Int.not_lt, Bool.not_not] at hc); (try (exfalso; first | contradiction | omega))))
    | (with_reducible refine AW_regionP 0 [0] ?_)
    | (with_reducible refine AW_regionP 1 [0] ?_)
    | ((fail_if_success (with_reducible show AW _ _ _ _)); simp (maxSteps := 2000000) only [go_sem, reduceIte, reduceCtorEq, Nat.reduceAdd, Nat.reduceLT, Nat.reduceLeDiff, Nat.reduceEqDiff, Nat.reduceMul, Nat.reduceSub, Nat.reduceBEq, Try.f46, le_25, ty_3, in_5, sl_25, zc_5, bytI, rowsI, lstC_row, wrap8, shr8, maxLen])
    | ((fail_if_success (with_reducible show AW _ _ _ _)); simp (disch := omega) only [seaWrap, seaDiv, seaMod])
    | ((with_reducible refine hK _ ?_); clear hK K))
  all_goals (intro i o hi ho; obtain rfl : o = 0 := (by omega); rw [rowV_cons, rowV_cons, rowV_cons, Nat.add_zero, rowV_get (by omega), civ_iv]; rcases i with _ | _ | _ | i <;> exact IV.eqv_refl _)

set_option maxRecDepth 100000 in
set_option maxHeartbeats 4000000 in
theorem rform_p (r : Nat) (R : Nat → Int) (hr : r + 3 ≤ 140737488355328) : CallsP Try.prog 55 [.one (.lst 1 (r) (bytI (R)))] (.t (.one (.lst 1 (r + 3) (bytI (formF r R))))) := by
  refine CallsP_of Try.func55 rfl (by rw [Try.ntmps55]; simp) ?_
  simp only [Try.ntmps55, List.map_cons, List.map_nil, PT.tv, argEnv, Nat.zero_add, Nat.reduceAdd]
  repeat' (first
    | (with_reducible refine AW_seq_k fun K hK => ?_)
    | ((first | (with_reducible refine And.intro ?_ ?_) | (with_reducible refine Need.mk ?_)); focus (first | exact True.intro | (with_reducible assumption) | omega | (refine ⟨?_, ?_⟩ <;> omega) | (intro _; first | exact True.intro | (with_reducible assumption) | omega) | (intros; (repeat' (first | exact True.intro | omega | (with_reducible assumption) | (with_reducible refine And.intro ?_ ?_))); done) | (simp (disch := omega) only [Bool.and_eq_true, Bool.or_eq_true, decide_eq_true_eq, bne_iff_ne, ne_eq] at *; first | done | omega | (intros; omega)) | (simp; done) | (simp; omega) | (simp +contextual; done) | (intro h; rw [h]; rfl) | (intros; simp_all; done)))
    | (with_reducible refine AW_skip ?_)
    | (with_reducible refine AW_exit ?_)
    | (with_reducible refine AW_ret ?_)
    | (with_reducible refine retK_n ?_)
    | (with_reducible refine retK_n' ?_)
    | (with_reducible refine retH_n rfl rfl rfl ?_)
    | (with_reducible refine retH_n' rfl rfl rfl ?_)
    | (with_reducible refine AW_condI ?_)
    | (with_reducible refine AW_block ?_)
    | ((with_reducible refine condN_t ?_ ?_) <;> (intro hc; (try simp only [Bool.and_eq_true, Bool.or_eq_true, Bool.not_eq_true', Bool.and_eq_false_iff, Bool.or_eq_false_iff, decide_eq_true_eq, decide_eq_false_iff_not, bne_iff_ne, beq_iff_eq, reduceCtorEq, bne_eq_false_iff_eq, beq_eq_false_iff_ne, Bool.not_eq_false', Int.not_le, Int.not_lt, Bool.not_not] at hc); (skip); (try (exfalso; first | contradiction | omega))))
    | (with_reducible refine AW_regionP 0 [0] ?_)
    | (with_reducible refine AW_regionP 1 [0] ?_)
    | (with_reducible refine AW_regionP 2 [0, 3] ?_)
    | (with_reducible refine AW_regionP 3 [0, 3, 4] ?_)
    | (with_reducible refine AW_regionP 4 [0, 3, 4] ?_)
    | (with_reducible refine AW_regionP 5 [0, 3, 4] ?_)
    | (with_reducible refine AW_regionP 6 [3] ?_)
    | ((with_reducible refine AW_loopQ (c := (Code.seq (Code.seq (Code.region 3 _ _) _) _)) (ι := Nat) [0] (fun k => [(3, .t (.one (.slc 0 0 (k + 3) 1))), (4, iA .i64 (k : Int))]) (fun k => [(0, rowV (fun j => .g (.int .u8 (formF r R j))) (k + 3))]) (fun k => k ≤ r) (fun k => r - k) 0 ?lg3 ?l13 ?l23 ?li3 ?lr3); (case' lg3 => rintro k _); (case' li3 => try (first | trivial | omega | (simp; done) | (simp; omega))); (case' lr3 => rintro k hk KR hR3; skip; simp only [keepE, hupd, hset, lk, if_true, if_false, Nat.reduceEqDiff, reduceIte, List.cons_append, List.nil_append, bytI, rowsI, wrap8, lstC_row, maxLen]))
    | ((with_reducible refine hR3 _ (k + 1) ?_); (try clear hR3 KR))
    | ((with_reducible refine Told.mk ?_); simp only [go_sem, reduceIte, reduceCtorEq, Nat.reduceAdd, Nat.reduceLT, Nat.reduceLeDiff, Nat.reduceEqDiff, Nat.reduceMul, Nat.reduceSub, Nat.reduceBEq, bytI, rowsI, wrap8, lstC_row, maxLen] <;> (first | exact True.intro | (((try simp (disch := omega) only [seaWrap, Int.natCast_add, Int.cast_ofNat_Int, and_true, true_and, and_self]); (repeat' (first | exact True.intro | omega | rfl | (with_reducible assumption) | (with_reducible refine And.intro ?_ ?_) | (exact all_succ (by assumption) (by assumption)) | (exact wkC_same _ _) | (exact wkC_row _ (fun j hj => rfl)) | (exact wkC_snoc' _ rfl) | (exact wkC_snoc (fun j hj => rfl) rfl))); done)) | ((refine wkC_eq (by simp [rowV, List.range_succ, formF]) (rowV_iv _ _))) | (refine Stuck.out ?_)))
    | ((fail_if_success (with_reducible show AW _ _ _ _)); simp (maxSteps := 2000000) only [go_sem, reduceIte, reduceCtorEq, Nat.reduceAdd, Nat.reduceLT, Nat.reduceLeDiff, Nat.reduceEqDiff, Nat.reduceMul, Nat.reduceSub, Nat.reduceBEq, Try.f55, le_25, ty_3, in_5, sl_25, zc_5, ar_25, ty_5, bytI, rowsI, wrap8, lstC_row, maxLen])
    | ((fail_if_success (with_reducible show AW _ _ _ _)); simp (disch := omega) only [seaWrap, seaDiv, seaMod])
    | ((with_reducible refine hK _ ?_); clear hK K)
    | (with_reducible apply_assumption -exfalso only [*]))
  all_goals (obtain rfl : r = k := (by omega); (intro i o hi ho; (try (obtain rfl : o = 0 := (by omega))); refine rowV_eqv' (F := bytI (formF r R)) (fun j hj => ?_) _ _ (by omega) (by omega); exact IV.eqv_refl _))

end Go.Proofs.Ytifoncmlelinjaa
