/- M: walks on abstract states. -/
import Derived.Test.YtbckibbgajfihaaQ
set_option linter.unusedVariables false
set_option linter.unusedSimpArgs false
namespace Go.Proofs.Ytbckibbgajfihaa
open Go.RowKit Go.Sea
attribute [local go_sem] callK_N gf gk gdrop lkL setL lsF ltAll rdyL bodyF roundQ roundS loopQ loopS jumpOf inLs yV yA bAV zipPut purgeG List.tail_cons Option.isNone_none Option.isNone_some callGK_f callDK_f callDGK_f retN retHN blockA arun_nil arun_plain arun_guard plainF guardF guardB arunD_nil arunD_plain arunD_guard plainDF guardDF guardDB AS.ent Eff.noApp Eff.tgt ftF AV.refs TV.refs CV.refs LV.refs Op.operands Call.operands List.append_toArray List.push_toArray List.flatMap_cons List.flatMap_nil List.toList_toArray Option.toArray List.reverse_cons List.reverse_nil opF AS.ev constA lk AS.get AV.tv AV.nd AS.eff AS.put argEnv PT.tv PV.av AV.mbOf hset hget TV.cells dstOk thenA gB isB toB TV.bool? TV.int? intF loadF storeF fieldF indexF lenF sliceF optI appF minmaxF ipCells fillF repC partsF lvsF TV.lv LV.tv purgeE purgeC purgeH AV.purge CV.purge AV.has TV.has CV.has LV.has calleeF argsF tvsF toPT toIV toIVs toPTs toPV civ isIv iA bA List.map_cons List.map_nil List.length_nil List.length_cons List.getElem?_cons_zero List.getElem?_cons_succ List.getElem?_nil Option.getD_some Option.getD_none Option.bind_some Option.bind_none List.take_succ_cons List.take_zero List.drop_succ_cons List.drop_zero List.take_nil List.drop_nil List.cons_append List.nil_append List.append_nil List.getD_cons_zero List.getD_cons_succ Option.map_some Option.map_none Option.isSome_some Option.isSome_none List.size_toArray List.any_cons List.any_nil List.mem_cons if_true if_false ite_true ite_false cond_true cond_false Nat.zero_add Nat.add_zero Nat.sub_zero Nat.le_refl Nat.zero_mul Nat.mul_zero Nat.one_mul Nat.mul_one Int.toNat_zero Int.toNat_natCast Bool.or_false Bool.false_or Bool.or_true Bool.true_or Bool.and_true Bool.true_and Bool.and_false Bool.false_and beq_self_eq_true beq_true beq_false Bool.not_true Bool.not_false and_true true_and and_false false_and and_self imp_self Bool.cond_false_right Bool.cond_true_left implies_true forall_const true_implies false_implies Option.some.injEq Prod.mk.injEq ne_eq not_false_eq_true not_true_eq_false eq_self Nat.lt_irrefl Nat.not_lt_zero callDK_t calleeT eqN barOp boF seaMin seaMax seaNat1 seaNat2 Value.bool.injEq Value.int.injEq srcF lstC TV.dp IV.eqv PT.eqv PV.eqv All2 keepE hupd callZ_N AS.frz AS.frzW frzs frzsOk frzOk frzE frzA frzT frzC frzG frzH hdel cmpS eqF eqC gvs eqVs eqV decide_true resF tupA inlQ okL okGL okG nextL wkH wkC wkV nilA nilC AV.ok TV.ok CV.ok LV.ok okB forall_eq_or_imp forall_eq List.not_mem_nil List.mem_singleton true_or or_true or_false false_or or_self exists_prop AV.t.injEq TV.one.injEq CV.iv.injEq IV.g.injEq TV.agg.injEq List.cons.injEq
theorem fnok_16 : fnOk Try.prog 16 = true := by kernel_rfl
theorem fnok_20 : fnOk Try.prog 20 = true := by kernel_rfl
theorem in_3 : inD Try.prog 3 = some .i64 := by kernel_rfl
theorem ty_5 : tyD Try.prog 5 = some (false, 1) := by kernel_rfl

def kM (b : Int) (n : Nat) : Nat := (b % (n : Int)).toNat
theorem kM_e {b : Int} {n : Nat} (hb : 0 ≤ b ∧ b ≤ 255) (hn : 0 < n) : b % (n : Int) = (kM b n : Int) ∧ kM b n < n := by
  have h1 := Int.emod_nonneg b (show (n : Int) ≠ 0 by omega)
  have h2 := Int.emod_lt_of_pos b (show (0 : Int) < n by omega)
  unfold kM
  omega
theorem concerns_v {a b : Acc} (hva : valB a = true) (hvb : valB b = true) (ha : a.m ≤ 9223372036854775807) (hq : a.q ≤ 9223372036854775807) (hb : b.m ≤ 9223372036854775807) (hr : b.q ≤ 9223372036854775807) : CallsP Try.prog 18 [accP a, accP b] (.tup [.one (.lst 1 (conL a b).length (intI fun i => (conL a b).getD i 0)), .one (.g (.int .i64 0))]) := by
  have h := concerns_p a b ha hq hb hr
  have e1 : conR a b = conL a b := if_pos (cmp_t hva hvb)
  have e2 : conE a b = 0 := if_pos (cmp_t hva hvb)
  rw [e1, e2] at h
  exact h
theorem moved_v {a b : Acc} (hva : valB a = true) (hvb : valB b = true) (ha : a.m ≤ 9223372036854775807) (hq : a.q ≤ 9223372036854775807) (hb : b.m ≤ 9223372036854775807) (hr : b.q ≤ 9223372036854775807) : CallsP Try.prog 21 [accP a, accP b] (.tup [.one (.lst 5 (mvR a b).length (cellI fun i o => ((mvR a b).getD i fun _ => 0) o)), .one (.g (.int .i64 0))]) := by
  have h := moved_p a b ha hq hb hr
  have e2 : conE a b = 0 := if_pos (cmp_t hva hvb)
  rw [e2] at h
  exact h
theorem mvR_le {a b : Acc} (hva : valB a = true) (hvb : valB b = true) : (mvR a b).length ≤ 3600 := by
  unfold mvR; rw [if_pos (cmp_t hva hvb)]
  have h1 := of_decide_eq_true hva
  have h2 := of_decide_eq_true hvb
  have := mvO_le (A := a) (B := b) (by omega) b.m
  omega
def pairA (a b : Acc) : Nat → Acc
  | 0 => a
  | _ + 1 => b
theorem few_2 (a b : Acc) {f : Nat → Nat → IV} (hf : ∀ i o, i < 2 → o < 4 → (f i o).eqv (accF (pairA a b) i o)) : CallsP Try.prog 10 [.one (.lst 4 2 f)] (.t (.one (.g (.bool (fewL 2 (pairA a b)))))) :=
  (few_p 2 (pairA a b) (by omega)).eqv ⟨⟨rfl, rfl, hf⟩, trivial⟩ (PV.eqv_refl _)
theorem few_1 (b : Acc) {f : Nat → Nat → IV} (hf : ∀ i o, i < 1 → o < 4 → (f i o).eqv (accF (fun _ => b) i o)) : CallsP Try.prog 10 [.one (.lst 4 1 f)] (.t (.one (.g (.bool (fewL 1 fun _ => b))))) :=
  (few_p 1 (fun _ => b) (by omega)).eqv ⟨⟨rfl, rfl, hf⟩, trivial⟩ (PV.eqv_refl _)
theorem owner_1 (b : Acc) (x y t : Int) (hm : b.m ≤ 9223372036854775807) {f : Nat → Nat → IV} (hf : ∀ i o, i < 1 → o < 4 → (f i o).eqv (accF (fun _ => ownA b) i o)) : CallsP Try.prog 11 [.one (.lst 4 1 f), .agg [.g (.int .i64 (x)), .g (.int .i64 (y))], .one (.g (.int .i64 (t)))] (.tup [.one (.g (.int .i64 (ownV 1 (fun _ => ownA b) x y t))), .one (.g (.int .i64 (ownE 1 (fun _ => ownA b) x y t)))]) :=
  (owner_p 1 (fun _ => ownA b) x y t (by omega) fun i _ => ⟨hm, (by omega : 20 ≤ 9223372036854775807)⟩).eqv ⟨⟨rfl, rfl, hf⟩, PT.eqv_refl _, PT.eqv_refl _, trivial⟩ (PV.eqv_refl _)
theorem all20_eqv {f : Nat → Nat → IV} (h : ∀ i, i < 20 → f i 0 = .g (.int .i64 ((i : Int) + 1))) : ∀ i o, i < 20 → o < 1 → (f i o).eqv (intI all20 i o) := fun i o hi ho => by
  obtain rfl : o = 0 := by omega
  rw [h i hi]; exact IV.eqv_refl _
theorem mv_true {p : Bool} {a b : Acc} {x y o : Int} {g g' : Bool} (h : p = true → 0 < ofV a x y ∧ ofV a x y ≠ ofV b x y ∧ ofV b x y = o ∧ g = true ∧ g' = true) : (!p || decide (ofV a x y > 0) && ofV a x y != ofV b x y && ofV b x y == o && g && g') = true := by
  cases p with
  | false => rfl
  | true =>
    obtain ⟨h1, h2, h3, h4, h5⟩ := h rfl
    simp [h1, h2, h3, h4, h5]
    exact fun e => h2 (by omega)
theorem callGK_u0 {P : Program} {gs : List (Option Nat)} {d : Option Tmp} {op : UnOp} {t : TypeId} {x : Operand} {ty : TypeId} {pos : String} {aft : Array Edge} {g : Option (Nat × Bool)} {os : List Oper} {s : AS} {K : AS → Prop} (h : arun P gs os (s.put d .any) K) :
    callGK P gs false ⟨d, .unOp op t x, ty, pos, aft, g⟩ os s K := by
  refine Or.inr ?_
  exact ⟨fun h => (by cases h), fun _ => h⟩
theorem eqL_comm (a b : Acc) : eqL (conL a b).length (conL b a).length (fun i => (conL a b).getD i 0) (fun i => (conL b a).getD i 0) = true := by
  rw [con_comm a b]; exact decide_eq_true ⟨rfl, fun _ _ => rfl⟩
theorem mvR_len0 {a : Acc} (h : valB a = true) : (mvR a a).length = 0 := by rw [mvR_self h]; rfl
theorem con_len0 (a : Acc) : (conL a a).length = 0 := by rw [con_self]; rfl
theorem push_bd {n : Nat} {a : Nat → Acc} {b : Acc} (ha : ∀ i, i < n → (a i).m ≤ 9223372036854775807 ∧ (a i).q ≤ 9223372036854775807) (hm : b.m ≤ 9223372036854775807) (hq : b.q ≤ 9223372036854775807) : ∀ i, i < n + 1 → (pushA n a b i).m ≤ 9223372036854775807 ∧ (pushA n a b i).q ≤ 9223372036854775807 := fun i hi => by
  unfold pushA
  by_cases h : i < n
  · rw [if_pos h]; exact ha i h
  · rw [if_neg h]; exact ⟨hm, hq⟩

set_option maxRecDepth 100000 in
set_option maxHeartbeats 4000000 in
theorem signed_law (n : Nat) (a : Nat → Acc) (x y b : Int) (hb : 0 ≤ b ∧ b ≤ 255) (hn : n ≤ 9223372036854775807) (ha : ∀ i, i < n → (a i).m ≤ 9223372036854775807 ∧ (a i).q ≤ 9223372036854775807) : CallsP Try.prog 5 [.one (.lst 4 n (accF a)), .agg [.g (.int .i64 (x)), .g (.int .i64 (y))], .one (.g (.int .u8 b))] (.t (.one (.g (.bool (true))))) := by
  have hsx : True := trivial
  refine CallsP_of Try.func5 rfl (by rw [Try.ntmps5]; simp) ?_
  simp only [Try.ntmps5, List.map_cons, List.map_nil, PT.tv, argEnv, Nat.zero_add, Nat.reduceAdd]
  repeat' (first
    | (with_reducible refine AW_seq_k fun K hK => ?_)
    | ((first | (with_reducible refine And.intro ?_ ?_) | (with_reducible refine Need.mk ?_)); focus (first | exact True.intro | (with_reducible assumption) | omega | (refine ⟨?_, ?_⟩ <;> omega) | (intro _; first | exact True.intro | (with_reducible assumption) | omega) | (intros; (repeat' (first | exact True.intro | omega | (with_reducible assumption) | (with_reducible refine And.intro ?_ ?_))); done) | (simp (disch := omega) only [Bool.and_eq_true, Bool.or_eq_true, decide_eq_true_eq, bne_iff_ne, ne_eq] at *; first | done | omega | (intros; omega)) | (simp; done) | (simp; omega) | (simp +contextual; done) | (intro h; rw [h]; rfl) | (intros; simp_all; done)))
    | (with_reducible refine AW_skip ?_)
    | (with_reducible refine AW_exit ?_)
    | (with_reducible refine AW_ret ?_)
    | (with_reducible refine retK_n ?_)
    | (with_reducible refine retK_n' ?_)
    | (with_reducible refine retH_n rfl rfl rfl ?_)
    | (with_reducible refine retH_n' rfl rfl rfl ?_)
    | (with_reducible refine AW_condI ?_)
    | (with_reducible refine AW_block ?_)
    | ((with_reducible refine condN_t ?_ ?_) <;> (intro hc; (try simp only [Bool.and_eq_true, Bool.or_eq_true, Bool.not_eq_true', Bool.and_eq_false_iff, Bool.or_eq_false_iff, decide_eq_true_eq, decide_eq_false_iff_not, bne_iff_ne, beq_iff_eq, reduceCtorEq, bne_eq_false_iff_eq, beq_eq_false_iff_ne, Bool.not_eq_false', Int.not_le, Int.not_lt, Bool.not_not] at hc); ((try (have hL : listB n a = true := hc.2)); (try (have h00 : 0 < n := (by omega); obtain ⟨hsx, hkn⟩ := kM_e hb h00))); (try (exfalso; first | contradiction | omega))))
    | (with_reducible refine AW_regionP 0 [0, 1, 2] ?_)
    | (with_reducible refine AW_regionP 1 [0, 2, 4] ?_)
    | (with_reducible refine AW_regionP 2 [0, 2, 4, 7] ?_)
    | (with_reducible refine AW_regionP 3 [7] ?_)
    | (with_reducible refine AW_regionP 4 [0, 2, 4, 7] ?_)
    | ((with_reducible refine AW_prune (c := Code.region 5 _ true) [0, 4, 7, 8] ?_); (with_reducible refine AW_regionD ?_ ?_ ?_ ?_); (focus kernel_rfl); (focus kernel_rfl); (focus kernel_rfl))
    | ((with_reducible refine AW_prune (c := Code.region 6 _ true) [0, 4, 7, 8, 9, 10] ?_); (with_reducible refine AW_regionD ?_ ?_ ?_ ?_); (focus kernel_rfl); (focus kernel_rfl); (focus kernel_rfl))
    | (with_reducible refine AW_regionP 7 [0, 7, 8, 9, 10, 11, 12] ?_)
    | (with_reducible refine AW_regionP 8 [7, 10, 12] ?_)
    | (with_reducible refine AW_regionP 9 [0, 7, 8, 9, 11] ?_)
    | (with_reducible refine AW_regionP 10 [7, 9, 11, 13] ?_)
    | ((with_reducible refine And.intro ?_ ?_); focus ((with_reducible show chkR _ _ _ = true); kernel_rfl))
    | (refine callN_q (k := 9) fnok_9 (head_p) ?_ ?_)
    | (refine callN_q (k := 10) fnok_10 (few_p n a hn) ?_ ?_)
    | (refine callGN_q (k := 15) fnok_15 (fun hg => list_p n a hn ha) ?_ ?_)
    | (refine callDN_q (k := 11) fnok_11 (owner_p (kM b n) a _ _ _ (by omega) (fun i hi => ha i (by omega))) ?_ ?_)
    | (refine callDN_q (k := 11) fnok_11 (owner_p (kM b n + 1) a _ _ _ (by omega) (fun i hi => ha i (by omega))) ?_ ?_)
    | (refine callGN_q (k := 16) fnok_16 (fun hg => lhas_p _ _ _ (ha _ (by omega)).2) ?_ ?_)
    | ((fail_if_success (with_reducible show AW _ _ _ _)); simp (maxSteps := 2000000) only [go_sem, reduceIte, reduceCtorEq, Nat.reduceAdd, Nat.reduceLT, Nat.reduceLeDiff, Nat.reduceEqDiff, Nat.reduceMul, Nat.reduceSub, Nat.reduceBEq, Try.f5, fnok_9, fnok_10, le_22, fnok_15, ty_5, in_3, sl_22, ty_24, fnok_11, ar_22, of_33_3, ty_31, fnok_16, cellI, intI, accF0, accF1, accF2, accF3, hsx, Int.sub_zero, Int.toNat_natCast])
    | ((fail_if_success (with_reducible show AW _ _ _ _)); simp (disch := omega) only [seaWrap, seaDiv, seaMod])
    | ((with_reducible refine hK _ ?_); clear hK K))
  · have hL : listB n a = true := by assumption
    have e := signed_e (x := x) (y := y) hL hkn
    rw [beq_iff_eq]
    rcases hc with h | h
    · rw [h, e.1 h]
    · rw [h, e.2 h]
  · have hL : listB n a = true := by assumption
    have e := signed_v (x := x) (y := y) hL ha hkn hc.1
    simp only [Bool.or_eq_true, Bool.and_eq_true, beq_iff_eq]
    exact e

set_option maxRecDepth 100000 in
set_option maxHeartbeats 4000000 in
theorem concerned_law (a b : Acc) (x y : Int) (ha : a.m ≤ 9223372036854775807) (hq : a.q ≤ 9223372036854775807) (hb : b.m ≤ 9223372036854775807) (hr : b.q ≤ 9223372036854775807) : CallsP Try.prog 6 [accP a, accP b, .agg [.g (.int .i64 (x)), .g (.int .i64 (y))]] (.t (.one (.g (.bool (true))))) := by
  have hsx : True := trivial
  refine CallsP_of Try.func6 rfl (by rw [Try.ntmps6]; simp) ?_
  simp only [Try.ntmps6, List.map_cons, List.map_nil, PT.tv, argEnv, Nat.zero_add, Nat.reduceAdd]
  repeat' (first
    | (with_reducible refine AW_seq_k fun K hK => ?_)
    | ((first | (with_reducible refine And.intro ?_ ?_) | (with_reducible refine Need.mk ?_)); focus (first | exact True.intro | (with_reducible assumption) | omega | (refine ⟨?_, ?_⟩ <;> omega) | (intro _; first | exact True.intro | (with_reducible assumption) | omega) | (intros; (repeat' (first | exact True.intro | omega | (with_reducible assumption) | (with_reducible refine And.intro ?_ ?_))); done) | (simp (disch := omega) only [Bool.and_eq_true, Bool.or_eq_true, decide_eq_true_eq, bne_iff_ne, ne_eq] at *; first | done | omega | (intros; omega)) | (simp; done) | (simp; omega) | (simp +contextual; done) | (intro h; rw [h]; rfl) | (intros; simp_all; done)))
    | (with_reducible refine AW_skip ?_)
    | (with_reducible refine AW_exit ?_)
    | (with_reducible refine AW_ret ?_)
    | (with_reducible refine retK_n ?_)
    | (with_reducible refine retK_n' ?_)
    | (with_reducible refine retH_n rfl rfl rfl ?_)
    | (with_reducible refine retH_n' rfl rfl rfl ?_)
    | (with_reducible refine AW_condI ?_)
    | (with_reducible refine AW_block ?_)
    | ((with_reducible refine condN_t ?_ ?_) <;> (intro hc; (try simp only [Bool.and_eq_true, Bool.or_eq_true, Bool.not_eq_true', Bool.and_eq_false_iff, Bool.or_eq_false_iff, decide_eq_true_eq, decide_eq_false_iff_not, bne_iff_ne, beq_iff_eq, reduceCtorEq, bne_eq_false_iff_eq, beq_eq_false_iff_ne, Bool.not_eq_false', Int.not_le, Int.not_lt, Bool.not_not] at hc); ((try (have hva : valB a = true := hc.1.2; have hvb : valB b = true := hc.2; have hX := con_len a b))); (try (exfalso; first | contradiction | omega))))
    | (with_reducible refine AW_regionP 0 [0, 1, 2] ?_)
    | (with_reducible refine AW_regionP 1 [3, 4, 5] ?_)
    | (with_reducible refine AW_regionP 2 [3, 4, 5, 7] ?_)
    | (with_reducible refine AW_regionP 3 [7] ?_)
    | (with_reducible refine AW_regionP 4 [3, 4, 5, 7] ?_)
    | (with_reducible refine AW_regionP 5 [3, 4, 5, 7, 8, 9] ?_)
    | (with_reducible refine AW_regionP 6 [3, 4, 5, 7, 8, 9, 10, 11] ?_)
    | (with_reducible refine AW_regionP 7 [3, 4, 5, 7, 8, 9, 10, 11, 12, 13] ?_)
    | (with_reducible refine AW_regionP 8 [3, 4, 5, 7, 8] ?_)
    | (with_reducible refine AW_regionP 9 [3, 4, 5, 7, 8, 14] ?_)
    | (with_reducible refine AW_regionP 10 [3, 4, 5, 7, 8, 14] ?_)
    | ((with_reducible refine AW_prune (c := Code.region 11 _ true) [3, 4, 5, 7, 8, 14] ?_); (with_reducible refine AW_regionD ?_ ?_ ?_ ?_); (focus kernel_rfl); (focus kernel_rfl); (focus kernel_rfl))
    | (with_reducible refine AW_regionP 12 [3, 4, 5, 7, 8] ?_)
    | (with_reducible refine AW_regionP 13 [4, 5, 7, 8, 15] ?_)
    | (with_reducible refine AW_regionP 14 [7, 8, 15, 16] ?_)
    | ((with_reducible refine And.intro ?_ ?_); focus ((with_reducible show chkR _ _ _ = true); kernel_rfl))
    | (refine callN_q (k := 9) fnok_9 (head_p) ?_ ?_)
    | (refine callN_q (k := 10) fnok_10 (few_2 a b (fun i o hi ho => by rcases i with _ | _ | i <;> rcases o with _ | _ | _ | _ | o <;> first | omega | exact IV.eqv_refl _)) ?_ ?_)
    | (refine callGN_q (k := 17) fnok_17 (fun hg => valid_p _ (by omega) (by omega)) ?_ ?_)
    | (refine callN_q (k := 18) fnok_18 (concerns_v hva hvb ha hq hb hr) ?_ ?_)
    | (refine callN_q (k := 18) fnok_18 (concerns_v hvb hva hb hr ha hq) ?_ ?_)
    | (refine callN_q (k := 18) fnok_18 (concerns_v hva hva ha hq ha hq) ?_ ?_)
    | (refine callGN_q (k := 19) fnok_19 (fun hg => ints_p _ _ _ _ (by omega)) ?_ ?_)
    | (refine callN_q (k := 20) fnok_20 (rof_p _ _ _ (by omega)) ?_ ?_)
    | (refine callGN_q (k := 16) fnok_16 (fun hg => lhas_p _ _ _ (by omega)) ?_ ?_)
    | (refine callN_zq (k := 10) [3] ?_ ?_)
    | ((with_reducible refine AW_loopQ (c := (Code.seq (Code.seq (Code.region 9 _ _) _) _)) (ι := Nat) [3, 4, 5, 8] (fun k => [(7, bA true), (14, iA .i64 ((k : Int) + 1))]) (fun k => []) (fun k => k ≤ 21) (fun k => 21 - k) 0 ?lg9 ?l19 ?l29 ?li9 ?lr9); (case' lg9 => rintro k _); (case' li9 => try (first | trivial | omega | (simp; done) | (simp; omega))); (case' lr9 => rintro k hk KR hR9; skip; simp only [keepE, hupd, hset, lk, if_true, if_false, Nat.reduceEqDiff, reduceIte, List.cons_append, List.nil_append, cellI, intI, accF0, accF1, accF2, accF3, hsx, eqL_comm, con_len0, Int.add_sub_cancel]))
    | ((with_reducible refine hR9 _ (k + 1) ?_); (try clear hR9 KR))
    | ((with_reducible refine Told.mk ?_); simp only [go_sem, reduceIte, reduceCtorEq, Nat.reduceAdd, Nat.reduceLT, Nat.reduceLeDiff, Nat.reduceEqDiff, Nat.reduceMul, Nat.reduceSub, Nat.reduceBEq, cellI, intI, accF0, accF1, accF2, accF3, hsx, eqL_comm, con_len0, Int.add_sub_cancel] <;> (first | exact True.intro | (((try simp (disch := omega) only [seaWrap, Int.natCast_add, Int.cast_ofNat_Int, and_true, true_and, and_self]); (repeat' (first | exact True.intro | omega | rfl | (with_reducible assumption) | (with_reducible refine And.intro ?_ ?_) | (exact all_succ (by assumption) (by assumption)) | (exact decide_eq_true (con_asc a b k (by omega))))); done)) | (refine Stuck.out ?_)))
    | ((fail_if_success (with_reducible show AW _ _ _ _)); simp (maxSteps := 2000000) only [go_sem, reduceIte, reduceCtorEq, Nat.reduceAdd, Nat.reduceLT, Nat.reduceLeDiff, Nat.reduceEqDiff, Nat.reduceMul, Nat.reduceSub, Nat.reduceBEq, Try.f6, fnok_9, ty_33, sl_22, zc_33, fnok_10, fnok_17, fnok_18, fnok_19, le_31, sl_31, ar_31, ty_3, ty_24, fnok_20, fnok_16, cellI, intI, accF0, accF1, accF2, accF3, hsx, eqL_comm, con_len0, Int.add_sub_cancel])
    | ((fail_if_success (with_reducible show AW _ _ _ _)); simp (disch := omega) only [seaWrap, seaDiv, seaMod])
    | ((with_reducible refine hK _ ?_); clear hK K)
    | (with_reducible apply_assumption -exfalso only [*]))
  all_goals
    simp only [Bool.or_eq_true, Bool.and_eq_true, beq_iff_eq]
    by_cases hne : ofV a x y = ofV b x y
    · exact Or.inl hne
    · refine Or.inr ⟨?_, ?_⟩
      · by_cases h0 : ofV a x y = 0
        · exact Or.inl h0
        · exact Or.inr (hasL_mem (conc (bd_val hva hq) (bd_val hvb hr) hne (Or.inl rfl) h0))
      · by_cases h0 : ofV b x y = 0
        · exact Or.inl h0
        · exact Or.inr (hasL_mem (conc (bd_val hva hq) (bd_val hvb hr) hne (Or.inr rfl) h0))

set_option maxRecDepth 100000 in
set_option maxHeartbeats 4000000 in
theorem moved_law (a b : Acc) (u x y : Int) (ha : a.m ≤ 9223372036854775807) (hq : a.q ≤ 9223372036854775807) (hb : b.m ≤ 9223372036854775807) (hr : b.q ≤ 9223372036854775807) : CallsP Try.prog 7 [accP a, accP b, .one (.g (.int .u8 u)), .agg [.g (.int .i64 (x)), .g (.int .i64 (y))]] (.t (.one (.g (.bool (true))))) := by
  have hsx : True := trivial
  refine CallsP_of Try.func7 rfl (by rw [Try.ntmps7]; simp) ?_
  simp only [Try.ntmps7, List.map_cons, List.map_nil, PT.tv, argEnv, Nat.zero_add, Nat.reduceAdd]
  repeat' (first
    | ((with_reducible refine And.intro ?_ ?_); focus (intro h1; refine ⟨h1, fun h2 => ?_⟩; rw [Bool.and_eq_true]; exact ⟨h1, h2⟩))
    | (with_reducible refine AW_seq_k fun K hK => ?_)
    | ((first | (with_reducible refine And.intro ?_ ?_) | (with_reducible refine Need.mk ?_)); focus (first | exact True.intro | (with_reducible assumption) | omega | (refine ⟨?_, ?_⟩ <;> omega) | (intro _; first | exact True.intro | (with_reducible assumption) | omega) | (intros; (repeat' (first | exact True.intro | omega | (with_reducible assumption) | (with_reducible refine And.intro ?_ ?_))); done) | (simp (disch := omega) only [Bool.and_eq_true, Bool.or_eq_true, decide_eq_true_eq, bne_iff_ne, ne_eq] at *; first | done | omega | (intros; omega)) | (simp; done) | (simp; omega) | (simp +contextual; done) | (intro h; rw [h]; rfl) | (intros; simp_all; done)))
    | (with_reducible refine AW_skip ?_)
    | (with_reducible refine AW_exit ?_)
    | (with_reducible refine AW_ret ?_)
    | (with_reducible refine retK_n ?_)
    | (with_reducible refine retK_n' ?_)
    | (with_reducible refine retH_n rfl rfl rfl ?_)
    | (with_reducible refine retH_n' rfl rfl rfl ?_)
    | (with_reducible refine AW_condI ?_)
    | (with_reducible refine AW_block ?_)
    | ((with_reducible refine condN_t ?_ ?_) <;> (intro hc; (try simp only [Bool.and_eq_true, Bool.or_eq_true, Bool.not_eq_true', Bool.and_eq_false_iff, Bool.or_eq_false_iff, decide_eq_true_eq, decide_eq_false_iff_not, bne_iff_ne, beq_iff_eq, reduceCtorEq, bne_eq_false_iff_eq, beq_eq_false_iff_ne, Bool.not_eq_false', Int.not_le, Int.not_lt, Bool.not_not] at hc); ((try (have hva : valB a = true := hc.1.2; have hvb : valB b = true := hc.2; have hX := con_len a b; have hY := mvR_le hva hvb; have hsx := mvR_len0 hva))); (try (exfalso; first | contradiction | omega))))
    | (with_reducible refine AW_regionP 0 [0, 1, 3] ?_)
    | (with_reducible refine AW_regionP 1 [4, 5, 7] ?_)
    | (with_reducible refine AW_regionP 2 [4, 5, 7, 9] ?_)
    | (with_reducible refine AW_regionP 3 [9] ?_)
    | (with_reducible refine AW_regionP 4 [4, 5, 7, 9] ?_)
    | (with_reducible refine AW_regionP 5 [4, 5, 7, 9, 10, 11] ?_)
    | (with_reducible refine AW_regionP 6 [4, 5, 7, 9, 10, 11, 12, 13] ?_)
    | (with_reducible refine AW_regionP 7 [4, 5, 7, 9, 10, 11, 12, 13, 14, 15] ?_)
    | (with_reducible refine AW_regionP 8 [4, 5, 7, 9, 10, 14] ?_)
    | (with_reducible refine AW_regionP 9 [4, 5, 7, 9, 10, 14, 16] ?_)
    | (with_reducible refine AW_regionP 10 [4, 5, 7, 9, 10, 14, 16] ?_)
    | ((with_reducible refine AW_prune (c := Code.region 11 _ true) [4, 5, 7, 9, 10, 14, 16] ?_); (with_reducible refine AW_regionD ?_ ?_ ?_ ?_); (focus kernel_rfl); (focus kernel_rfl); (focus kernel_rfl))
    | (with_reducible refine AW_regionP 12 [4, 5, 7, 9, 10, 14, 16, 18] ?_)
    | (with_reducible refine AW_regionP 13 [4, 5, 7, 9, 10, 14, 16, 18, 19] ?_)
    | (with_reducible refine AW_regionP 14 [4, 5, 7, 9, 10, 14, 16, 18, 19, 20] ?_)
    | (with_reducible refine AW_regionP 15 [9] ?_)
    | ((with_reducible refine And.intro ?_ ?_); focus ((with_reducible show chkR _ _ _ = true); kernel_rfl))
    | (refine callN_q (k := 9) fnok_9 (head_p) ?_ ?_)
    | (refine callN_q (k := 10) fnok_10 (few_2 a b (fun i o hi ho => by rcases i with _ | _ | i <;> rcases o with _ | _ | _ | _ | o <;> first | omega | exact IV.eqv_refl _)) ?_ ?_)
    | (refine callGN_q (k := 17) fnok_17 (fun hg => valid_p _ (by omega) (by omega)) ?_ ?_)
    | (refine callN_q (k := 18) fnok_18 (concerns_v hva hvb ha hq hb hr) ?_ ?_)
    | (refine callN_q (k := 21) fnok_21 (moved_v hva hvb ha hq hb hr) ?_ ?_)
    | (refine callN_q (k := 21) fnok_21 (moved_v hva hva ha hq ha hq) ?_ ?_)
    | (refine callN_q (k := 20) fnok_20 (rof_p _ _ _ (by omega)) ?_ ?_)
    | (refine callGN_q (k := 16) fnok_16 (fun hg => lhas_p _ _ _ (by omega)) ?_ ?_)
    | (refine callDN_q (k := 13) fnok_13 (in_p _ _ _ _ _ _) ?_ ?_)
    | (refine callN_zq (k := 10) [3] ?_ ?_)
    | ((with_reducible refine AW_loopQ (c := (Code.seq (Code.seq (Code.region 9 _ _) _) _)) (ι := Nat) [4, 5, 7, 10, 14] (fun k => [(9, bA true), (16, iA .i64 (k : Int))]) (fun k => []) (fun k => k ≤ (mvR a b).length) (fun k => (mvR a b).length - k) 0 ?lg9 ?l19 ?l29 ?li9 ?lr9); (case' lg9 => rintro k _); (case' li9 => try (first | trivial | omega | (simp; done) | (simp; omega))); (case' lr9 => rintro k hk KR hR9; skip; simp only [keepE, hupd, hset, lk, if_true, if_false, Nat.reduceEqDiff, reduceIte, List.cons_append, List.nil_append, cellI, intI, accF0, accF1, accF2, accF3, hsx, con_len0, Bool.not_not]))
    | ((with_reducible refine hR9 _ (k + 1) ?_); (try clear hR9 KR))
    | ((with_reducible refine Told.mk ?_); simp only [go_sem, reduceIte, reduceCtorEq, Nat.reduceAdd, Nat.reduceLT, Nat.reduceLeDiff, Nat.reduceEqDiff, Nat.reduceMul, Nat.reduceSub, Nat.reduceBEq, cellI, intI, accF0, accF1, accF2, accF3, hsx, con_len0, Bool.not_not] <;> (first | exact True.intro | (((try simp (disch := omega) only [seaWrap, Int.natCast_add, Int.cast_ofNat_Int, and_true, true_and, and_self]); (repeat' (first | exact True.intro | omega | rfl | (with_reducible assumption) | (with_reducible refine And.intro ?_ ?_) | (exact all_succ (by assumption) (by assumption)) | (exact mv_true fun h => mv_row hva hvb hq hr (by omega) _ rfl h))); done)) | (refine Stuck.out ?_)))
    | ((fail_if_success (with_reducible show AW _ _ _ _)); simp (maxSteps := 2000000) only [go_sem, reduceIte, reduceCtorEq, Nat.reduceAdd, Nat.reduceLT, Nat.reduceLeDiff, Nat.reduceEqDiff, Nat.reduceMul, Nat.reduceSub, Nat.reduceBEq, Try.f7, fnok_9, ty_33, sl_22, zc_33, fnok_10, fnok_17, fnok_21, fnok_18, le_30, sl_30, ar_30, of_42_1, ty_40, ty_24, fnok_13, fnok_20, of_42_0, ty_3, fnok_16, cellI, intI, accF0, accF1, accF2, accF3, hsx, con_len0, Bool.not_not])
    | ((fail_if_success (with_reducible show AW _ _ _ _)); simp (disch := omega) only [seaWrap, seaDiv, seaMod])
    | ((with_reducible refine hK _ ?_); clear hK K)
    | (with_reducible apply_assumption -exfalso only [*]))
  all_goals skip

set_option maxRecDepth 100000 in
set_option maxHeartbeats 4000000 in
theorem history_t (n : Nat) (a : Nat → Acc) (b : Acc) (x y t : Int) (hn : n ≤ 9223372036854775807) (ha : ∀ i, i < n → (a i).m ≤ 9223372036854775807 ∧ (a i).q ≤ 9223372036854775807) (hm : b.m ≤ 9223372036854775807) (hq : b.q ≤ 9223372036854775807) (hf : fewL n a = true) : CallsP Try.prog 4 [.one (.lst 4 n (accF a)), accP b, .agg [.g (.int .i64 (x)), .g (.int .i64 (y))], .one (.g (.int .i64 (t)))] (.t (.one (.g (.bool (true))))) := by
  have hsx : True := trivial
  refine CallsP_of Try.func4 rfl (by rw [Try.ntmps4]; simp) ?_
  simp only [Try.ntmps4, List.map_cons, List.map_nil, PT.tv, argEnv, Nat.zero_add, Nat.reduceAdd]
  repeat' (first
    | ((refine callN_q (k := 11) fnok_11 (owner_1 b _ _ _ hm ?_) ?_ ?_); focus (intro i o hi ho; (rcases i with _ | i); (rcases o with _ | _ | _ | _ | o); (exact IV.eqv_refl _); (exact IV.eqv_refl _); (exact IV.eqv_refl _); (exact ⟨rfl, rfl, all20_eqv fun i hi => by rcases i with _ | _ | _ | _ | _ | _ | _ | _ | _ | _ | _ | _ | _ | _ | _ | _ | _ | _ | _ | _ | i <;> first | rfl | omega⟩); (exfalso; omega); (exfalso; omega)))
    | (with_reducible refine AW_seq_k fun K hK => ?_)
    | ((first | (with_reducible refine And.intro ?_ ?_) | (with_reducible refine Need.mk ?_)); focus (first | exact True.intro | (with_reducible assumption) | omega | (refine ⟨?_, ?_⟩ <;> omega) | (intro _; first | exact True.intro | (with_reducible assumption) | omega) | (intros; (repeat' (first | exact True.intro | omega | (with_reducible assumption) | (with_reducible refine And.intro ?_ ?_))); done) | (simp (disch := omega) only [Bool.and_eq_true, Bool.or_eq_true, decide_eq_true_eq, bne_iff_ne, ne_eq] at *; first | done | omega | (intros; omega)) | (simp; done) | (simp; omega) | (simp +contextual; done) | (intro h; rw [h]; rfl) | (intros; simp_all; done)))
    | (with_reducible refine AW_skip ?_)
    | (with_reducible refine AW_exit ?_)
    | (with_reducible refine AW_ret ?_)
    | (with_reducible refine retK_n ?_)
    | (with_reducible refine retK_n' ?_)
    | (with_reducible refine retH_n rfl rfl rfl ?_)
    | (with_reducible refine retH_n' rfl rfl rfl ?_)
    | (with_reducible refine AW_condI ?_)
    | (with_reducible refine AW_block ?_)
    | ((with_reducible refine condN_t ?_ ?_) <;> (intro hc; (try simp only [Bool.and_eq_true, Bool.or_eq_true, Bool.not_eq_true', Bool.and_eq_false_iff, Bool.or_eq_false_iff, decide_eq_true_eq, decide_eq_false_iff_not, bne_iff_ne, beq_iff_eq, reduceCtorEq, bne_eq_false_iff_eq, beq_eq_false_iff_ne, Bool.not_eq_false', Int.not_le, Int.not_lt, Bool.not_not] at hc); ((try (have hE : nextE n a b = 0 := hc; have hN : nextN n a b = n + 1 := if_pos hE; have h20 := (next_0 hE).2.2.1; have hL := push_list hE; have hsx : nextN n a b = n + 1 ∧ listB (n + 1) (pushA n a b) = true := ⟨hN, hL⟩))); (try (exfalso; first | contradiction | omega))))
    | (with_reducible refine AW_regionP 0 [0, 1, 2, 3] ?_)
    | (with_reducible refine AW_regionP 1 [0, 3, 5, 6] ?_)
    | (with_reducible refine AW_regionP 2 [0, 3, 5, 6, 9] ?_)
    | (with_reducible refine AW_regionP 3 [9] ?_)
    | (with_reducible refine AW_regionP 4 [0, 3, 5, 6, 9] ?_)
    | (with_reducible refine AW_regionP 5 [0, 3, 5, 6, 9, 10, 11] ?_)
    | (with_reducible refine AW_regionP 6 [9, 10] ?_)
    | (with_reducible refine AW_regionP 7 [0, 3, 5, 6, 9, 10] ?_)
    | (with_reducible refine AW_regionP 8 [0, 3, 5, 6, 9, 10, 12, 13] ?_)
    | (with_reducible refine AW_regionP 9 [9, 10] ?_)
    | (with_reducible refine AW_regionP 10 [0, 3, 5, 6, 9, 12, 13] ?_)
    | (with_reducible refine AW_regionP 11 [0, 3, 6, 9, 12, 13] ?_)
    | (with_reducible refine AW_regionP 12 [9, 12, 13, 14, 15] ?_)
    | (with_reducible refine AW_regionP 13 [3, 5, 6, 9, 12, 13] ?_)
    | (with_reducible refine AW_regionP 14 [3, 6, 9, 12, 13, 16] ?_)
    | (with_reducible refine AW_regionP 15 [3, 6, 9, 12, 13, 16] ?_)
    | (with_reducible refine AW_regionP 16 [9, 12, 13, 17, 18] ?_)
    | (refine callN_q (k := 9) fnok_9 (head_p) ?_ ?_)
    | (refine callN_q (k := 10) fnok_10 (few_p n a hn) ?_ ?_)
    | (refine callGN_q (k := 10) fnok_10 (fun hg => few_p n a hn) ?_ ?_)
    | (refine callN_q (k := 10) fnok_10 (few_1 b (fun i o hi ho => by rcases i with _ | _ | i <;> rcases o with _ | _ | _ | _ | o <;> first | omega | exact IV.eqv_refl _)) ?_ ?_)
    | (refine callGN_q (k := 10) fnok_10 (fun hg => few_1 b (fun i o hi ho => by rcases i with _ | _ | i <;> rcases o with _ | _ | _ | _ | o <;> first | omega | exact IV.eqv_refl _)) ?_ ?_)
    | (refine callN_q (k := 14) fnok_14 (next_p n a b hm hq hn ha) ?_ ?_)
    | (refine callN_q (k := 11) fnok_11 (owner_p (n + 1) (pushA n a b) _ _ _ (by omega) (push_bd ha hm hq)) ?_ ?_)
    | (refine callN_q (k := 11) fnok_11 (owner_p n a _ _ _ hn ha) ?_ ?_)
    | (refine callGN_q (k := 15) fnok_15 (fun hg => list_p (n + 1) (pushA n a b) (by omega) (push_bd ha hm hq)) ?_ ?_)
    | (refine callN_zq (k := 10) [2] ?_ ?_)
    | (refine callN_zq (k := 11) [4] ?_ ?_)
    | ((fail_if_success (with_reducible show AW _ _ _ _)); simp (maxSteps := 2000000) only [go_sem, reduceIte, reduceCtorEq, Nat.reduceAdd, Nat.reduceLT, Nat.reduceLeDiff, Nat.reduceEqDiff, Nat.reduceMul, Nat.reduceSub, Nat.reduceBEq, Try.f4, fnok_9, fnok_10, ty_33, sl_22, zc_33, fnok_14, le_22, ty_24, fnok_11, fnok_15, of_33_1, ty_3, sl_31, zc_3, of_33_3, ty_31, cellI, intI, accF0, accF1, accF2, accF3, hsx, hf])
    | ((with_reducible refine hK _ ?_); clear hK K))
  · simp [nextN, hc]
  · have e := hist_before (x := x) (y := y) (by assumption : nextE n a b = 0) hc
    rw [e.1, e.2]; simp
  · have e := hist_after (x := x) (y := y) (by assumption : nextE n a b = 0) hc
    rw [e.1, e.2]; simp

set_option maxRecDepth 100000 in
set_option maxHeartbeats 4000000 in
theorem history_f (n : Nat) (a : Nat → Acc) (b : Acc) (x y t : Int) (hn : n ≤ 9223372036854775807) (ha : ∀ i, i < n → (a i).m ≤ 9223372036854775807 ∧ (a i).q ≤ 9223372036854775807) (hm : b.m ≤ 9223372036854775807) (hq : b.q ≤ 9223372036854775807) (hf : fewL n a = false) : CallsP Try.prog 4 [.one (.lst 4 n (accF a)), accP b, .agg [.g (.int .i64 (x)), .g (.int .i64 (y))], .one (.g (.int .i64 (t)))] (.t (.one (.g (.bool (true))))) := by
  refine CallsP_of Try.func4 rfl (by rw [Try.ntmps4]; simp) ?_
  simp only [Try.ntmps4, List.map_cons, List.map_nil, PT.tv, argEnv, Nat.zero_add, Nat.reduceAdd]
  repeat' (first
    | (refine callGK_u0 ?_)
    | (with_reducible refine AW_seq_k fun K hK => ?_)
    | ((first | (with_reducible refine And.intro ?_ ?_) | (with_reducible refine Need.mk ?_)); focus (first | exact True.intro | (with_reducible assumption) | omega | (refine ⟨?_, ?_⟩ <;> omega) | (intro _; first | exact True.intro | (with_reducible assumption) | omega) | (intros; (repeat' (first | exact True.intro | omega | (with_reducible assumption) | (with_reducible refine And.intro ?_ ?_))); done) | (simp (disch := omega) only [Bool.and_eq_true, Bool.or_eq_true, decide_eq_true_eq, bne_iff_ne, ne_eq] at *; first | done | omega | (intros; omega)) | (simp; done) | (simp; omega) | (simp +contextual; done) | (intro h; rw [h]; rfl) | (intros; simp_all; done)))
    | (with_reducible refine AW_skip ?_)
    | (with_reducible refine AW_exit ?_)
    | (with_reducible refine AW_ret ?_)
    | (with_reducible refine retK_n ?_)
    | (with_reducible refine retK_n' ?_)
    | (with_reducible refine retH_n rfl rfl rfl ?_)
    | (with_reducible refine retH_n' rfl rfl rfl ?_)
    | (with_reducible refine AW_condI ?_)
    | (with_reducible refine AW_block ?_)
    | ((with_reducible refine condN_t ?_ ?_) <;> (intro hc; (try simp only [Bool.and_eq_true, Bool.or_eq_true, Bool.not_eq_true', Bool.and_eq_false_iff, Bool.or_eq_false_iff, decide_eq_true_eq, decide_eq_false_iff_not, bne_iff_ne, beq_iff_eq, reduceCtorEq, bne_eq_false_iff_eq, beq_eq_false_iff_ne, Bool.not_eq_false', Int.not_le, Int.not_lt, Bool.not_not] at hc); (try (exfalso; first | contradiction | omega))))
    | (with_reducible refine AW_regionP 0 [0, 1, 2, 3] ?_)
    | (with_reducible refine AW_regionP 1 [0, 3, 5, 6] ?_)
    | (with_reducible refine AW_regionP 2 [0, 3, 5, 6, 9] ?_)
    | (with_reducible refine AW_regionP 3 [9] ?_)
    | (with_reducible refine AW_regionP 4 [0, 3, 5, 6, 9] ?_)
    | (with_reducible refine AW_regionP 5 [0, 3, 5, 6, 9, 10, 11] ?_)
    | (with_reducible refine AW_regionP 6 [9, 10] ?_)
    | (with_reducible refine AW_regionP 7 [0, 3, 5, 6, 9, 10] ?_)
    | (with_reducible refine AW_regionP 8 [0, 3, 5, 6, 9, 10, 12, 13] ?_)
    | (with_reducible refine AW_regionP 9 [9, 10] ?_)
    | (with_reducible refine AW_regionP 10 [0, 3, 5, 6, 9, 12, 13] ?_)
    | (with_reducible refine AW_regionP 11 [0, 3, 6, 9, 12, 13] ?_)
    | (with_reducible refine AW_regionP 12 [9, 12, 13, 14, 15] ?_)
    | (with_reducible refine AW_regionP 13 [3, 5, 6, 9, 12, 13] ?_)
    | (with_reducible refine AW_regionP 14 [3, 6, 9, 12, 13, 16] ?_)
    | (with_reducible refine AW_regionP 15 [3, 6, 9, 12, 13, 16] ?_)
    | (with_reducible refine AW_regionP 16 [9, 12, 13, 17, 18] ?_)
    | (refine callN_q (k := 9) fnok_9 (head_p) ?_ ?_)
    | (refine callN_q (k := 10) fnok_10 (few_p n a hn) ?_ ?_)
    | (refine callGN_q (k := 10) fnok_10 (fun hg => few_p n a hn) ?_ ?_)
    | ((refine callGN_sq (k := 10) ?_ ?_) <;> (intro hc; (try simp only [Bool.and_eq_true, Bool.or_eq_true, Bool.not_eq_true', Bool.and_eq_false_iff, Bool.or_eq_false_iff, decide_eq_true_eq, decide_eq_false_iff_not, bne_iff_ne, beq_iff_eq, reduceCtorEq, bne_eq_false_iff_eq, beq_eq_false_iff_ne, Bool.not_eq_false', Int.not_le, Int.not_lt, Bool.not_not] at hc); (try (exfalso; first | contradiction | omega))))
    | ((fail_if_success (with_reducible show AW _ _ _ _)); simp (maxSteps := 2000000) only [go_sem, reduceIte, reduceCtorEq, Nat.reduceAdd, Nat.reduceLT, Nat.reduceLeDiff, Nat.reduceEqDiff, Nat.reduceMul, Nat.reduceSub, Nat.reduceBEq, Try.f4, fnok_9, fnok_10, ty_33, sl_22, zc_33, fnok_14, le_22, ty_24, fnok_11, fnok_15, of_33_1, ty_3, sl_31, zc_3, of_33_3, ty_31, cellI, intI, accF0, accF1, accF2, accF3, hf])
    | ((with_reducible refine hK _ ?_); clear hK K))
  all_goals skip

theorem history_law (n : Nat) (a : Nat → Acc) (b : Acc) (x y t : Int) (hn : n ≤ 9223372036854775807) (ha : ∀ i, i < n → (a i).m ≤ 9223372036854775807 ∧ (a i).q ≤ 9223372036854775807) (hm : b.m ≤ 9223372036854775807) (hq : b.q ≤ 9223372036854775807) : CallsP Try.prog 4 [.one (.lst 4 n (accF a)), accP b, .agg [.g (.int .i64 (x)), .g (.int .i64 (y))], .one (.g (.int .i64 (t)))] (.t (.one (.g (.bool (true))))) := by
  cases hf : fewL n a with
  | true => exact history_t n a b x y t hn ha hm hq hf
  | false => exact history_f n a b x y t hn ha hm hq hf

end Go.Proofs.Ytbckibbgajfihaa
