/- T: walks on abstract states. -/
import Derived.Test.YtifoncmlelinjaaS
set_option linter.unusedVariables false
set_option linter.unusedSimpArgs false
namespace Go.Proofs.Ytifoncmlelinjaa
open Go.RowKit Go.Sea
attribute [local go_sem] callK_N gf gk gdrop lkL setL lsF ltAll rdyL bodyF roundQ roundS loopQ loopS jumpOf inLs yV yA bAV zipPut purgeG_nil purgeG_cons List.tail_cons Option.isNone_none Option.isNone_some callGK_f callDK_f callDGK_f retN retHN blockA arun_nil arun_plain arun_guard plainF guardF guardB arunD_nil arunD_plain arunD_guard plainDF guardDF guardDB AS.ent Eff.noApp Eff.tgt ftF AV.refs TV.refs CV.refs LV.refs Op.operands Call.operands List.append_toArray List.push_toArray List.flatMap_cons List.flatMap_nil List.toList_toArray Option.toArray nidF nidA List.reverse_cons List.reverse_nil opF AS.ev constA lk AS.get AV.tv AV.nd AS.eff AS.put argEnv PT.tv PV.av AV.mbOf hset hget TV.cells dstOk thenA gB isB toB TV.bool? TV.int? intF loadF storeF fieldF indexF lenF sliceF optI appF minmaxF fillF partsF lvsF TV.lv LV.tv purgeE purgeC purgeH AV.purge CV.purge AV.has TV.has CV.has LV.has calleeF argsF tvsF toPT toIV toIVs toPTs toPV iA bA List.map_cons List.map_nil List.length_nil List.length_cons List.getElem?_cons_zero List.getElem?_cons_succ List.getElem?_nil Option.getD_some Option.getD_none Option.bind_some Option.bind_none List.take_succ_cons List.take_zero List.drop_succ_cons List.drop_zero List.take_nil List.drop_nil List.cons_append List.nil_append List.append_nil List.getD_cons_zero List.getD_cons_succ Option.map_some Option.map_none Option.isSome_some Option.isSome_none List.size_toArray List.any_cons List.any_nil List.mem_cons if_true if_false ite_true ite_false cond_true cond_false Nat.zero_add Nat.add_zero Nat.sub_zero Nat.le_refl Nat.zero_mul Nat.mul_zero Nat.one_mul Nat.mul_one Int.toNat_zero Int.toNat_natCast Bool.or_false Bool.false_or Bool.or_true Bool.true_or Bool.and_true Bool.true_and Bool.and_false Bool.false_and beq_self_eq_true beq_true beq_false Bool.not_true Bool.not_false and_true true_and and_false false_and and_self imp_self Bool.cond_false_right Bool.cond_true_left implies_true forall_const true_implies false_implies Option.some.injEq Prod.mk.injEq ne_eq not_false_eq_true not_true_eq_false eq_self Nat.lt_irrefl Nat.not_lt_zero op2F ncF slice3F offF slArrF copyF clearF toArrF callDK_t calleeT eqN barOp boF seaMin seaMax seaNat1 seaNat2 Value.bool.injEq Value.int.injEq srcF TV.dp IV.eqv PT.eqv PV.eqv All2 keepE hupd callZ_N AS.frz AS.frzW frzs frzsOk frzOk frzE frzA frzT frzC frzG frzH hdel cmpS eqF eqC gvs eqVs eqV decide_true resF tupA inlQ okL okGL okG nextL nextF barOpN AS.mv mvE mvG_nil mvG_cons mvH mvO AV.mv TV.mv CV.mv LV.mv famL_mv famL_purge famL_snoc famL_zero wkH wkC wkV nilA nilC AV.ok TV.ok CV.ok LV.ok okB forall_eq_or_imp forall_eq List.not_mem_nil List.mem_singleton true_or or_true or_false false_or or_self exists_prop AV.t.injEq TV.one.injEq CV.iv.injEq IV.g.injEq TV.agg.injEq List.cons.injEq repC_0 repC_1 repC_2 repC_3 rowV_len rowV_pur rowV_has rowV_frz frzC isIv_iv civ_iv rowV_all List.map_append retON AV.to TV.to CV.to
theorem fnok_15 : fnOk Try.prog 15 = true := by kernel_rfl
theorem fnok_18 : fnOk Try.prog 18 = true := by kernel_rfl
theorem fnok_22 : fnOk Try.prog 22 = true := by kernel_rfl
theorem fnok_24 : fnOk Try.prog 24 = true := by kernel_rfl
theorem fnok_27 : fnOk Try.prog 27 = true := by kernel_rfl
theorem fnok_29 : fnOk Try.prog 29 = true := by kernel_rfl

def r78 (i : Nat) : Int := if i = 0 then 7 else 8
def D1 : Nat → Nat → Int := apH 3 zD 2 r78 1048576
def Da : Nat → Nat → Int := apH 3 zD 2 r78 64
def Db : Nat → Nat → Int := apH 3 zD 2 r78 65
def m1 (_ : Nat) : Nat := 1
def v56 (i _ : Nat) : Int := if i = 0 then 5 else 6
def D2 : Nat → Nat → Int := cmpD 3 zD 2 m1 v56 1048576
theorem zD_b : BytD zD := fun _ _ => by
  show (0 : Int) ≤ 0 ∧ (0 : Int) < 256
  omega
theorem c64_le (n : Nat) : ∀ i, i < n → c64 i ≤ 9223372036854775807 := fun i _ => (by decide : 64 ≤ 9223372036854775807)
theorem r78_b : Byt r78 := fun i => by unfold r78; split <;> decide
theorem h_new : CallsP Try.prog 15 [.one (.g (.int .i64 3))] (.tup [.agg [.lst 1 3 (rowsI c64 zD)], .one (.g (.int .i64 0))]) := by
  have h := new_p 3 (by decide)
  rw [show newN 3 = 3 by decide, show newE 3 = 0 by decide] at h
  exact h
theorem h_read0 : CallsP Try.prog 24 [.agg [.lst 1 3 (rowsI c64 zD)]] (.tup [.one (.lst 1 0 (rowsI (recL (hv 3 zD)) (recF (hv 3 zD)))), .one (.g (.int .i64 0))]) := by
  have h := read_p 3 c64 zD (by decide) (c64_le 3) zD_b
  rw [show readN 3 c64 zD = 0 by decide +kernel, show rdE 3 c64 zD = 0 by decide +kernel] at h
  exact h
theorem h_room : CallsP Try.prog 27 [.agg [.lst 1 3 (rowsI c64 zD)]] (.tup [.one (.g (.int .i64 61)), .one (.g (.int .i64 0))]) := by
  have h := room_p 3 c64 zD (by decide) (c64_le 3) zD_b
  rw [show roomV 3 c64 zD = 61 by decide +kernel, show roomE 3 c64 zD = 0 by decide +kernel] at h
  exact h
theorem h_app {f : Nat → Nat → IV} (hf : ∀ i o, i < 2 → o < 1 → (f i o).eqv (bytI r78 i o)) : CallsP Try.prog 18 [.agg [.lst 1 3 (rowsI c64 zD)], .one (.lst 1 2 f)] (.tup [.agg [.lst 1 3 (rowsI c64 D1)], .one (.g (.int .i64 0))]) := by
  have h := append_p 3 c64 zD (by decide) (c64_le 3) zD_b 2 r78 (by decide)
  rw [show cutN 3 c64 zD 2 1048576 = 3 by decide +kernel, show cutE 3 c64 zD 2 1048576 = 0 by decide +kernel] at h
  exact h.eqv ⟨PT.eqv_refl _, ⟨rfl, rfl, hf⟩, trivial⟩ (PV.eqv_refl _)
theorem h_cut (af : Int) (haf : -9223372036854775808 ≤ af ∧ af ≤ 9223372036854775807) (e : cutE 3 c64 zD 2 af = 0) {f : Nat → Nat → IV} (hf : ∀ i o, i < 2 → o < 1 → (f i o).eqv (bytI r78 i o)) : CallsP Try.prog 20 [.agg [.lst 1 3 (rowsI c64 zD)], .one (.lst 1 2 f), .one (.g (.int .i64 af))] (.tup [.agg [.lst 1 3 (rowsI c64 (apH 3 zD 2 r78 af.toNat))], .one (.g (.int .i64 0))]) := by
  have h := cut_p 3 c64 zD (by decide) (c64_le 3) zD_b 2 r78 (by decide) af haf
  rw [show cutN 3 c64 zD 2 af = 3 by unfold cutN; rw [e]; rfl, e] at h
  exact h.eqv ⟨PT.eqv_refl _, ⟨rfl, rfl, hf⟩, PT.eqv_refl _, trivial⟩ (PV.eqv_refl _)
theorem h_cost (r : Nat) (R : Nat → Int) (v e : Int) (hr : r ≤ 9223372036854775807) (hv : costV 3 c64 zD r = v) (he : cutE 3 c64 zD r 0 = e) {f : Nat → Nat → IV} (hf : ∀ i o, i < r → o < 1 → (f i o).eqv (bytI R i o)) : CallsP Try.prog 22 [.agg [.lst 1 3 (rowsI c64 zD)], .one (.lst 1 r f)] (.tup [.one (.g (.int .i64 v)), .one (.g (.int .i64 e))]) := by
  have h := cost_p 3 c64 zD (by decide) (c64_le 3) zD_b r R hr
  rw [hv, he] at h
  exact h.eqv ⟨PT.eqv_refl _, ⟨rfl, rfl, hf⟩, trivial⟩ (PV.eqv_refl _)
theorem h_read (D : Nat → Nat → Int) (hD : BytD D) (q : Nat) (h1 : readN 3 c64 D = q) (h2 : rdE 3 c64 D = 0) : CallsP Try.prog 24 [.agg [.lst 1 3 (rowsI c64 D)]] (.tup [.one (.lst 1 q (rowsI (recL (hv 3 D)) (recF (hv 3 D)))), .one (.g (.int .i64 0))]) := by
  have h := read_p 3 c64 D (by decide) (c64_le 3) hD
  rw [h1, h2] at h
  exact h
theorem h_compact {f : Nat → Nat → IV} (hf : ∀ i o, i < 2 → o < 1 → (f i o).eqv (rowsI m1 v56 i o)) : CallsP Try.prog 29 [.agg [.lst 1 3 (rowsI c64 zD)], .one (.lst 1 2 f)] (.tup [.agg [.lst 1 3 (rowsI c64 D2)], .one (.g (.int .i64 0))]) := by
  have h := compact_p 3 c64 zD (by decide) (c64_le 3) zD_b 2 m1 v56 (by decide) (fun i _ => (by decide : 1 ≤ 9223372036854775807))
  rw [show cmpN 3 c64 zD 2 m1 1048576 = 3 by decide +kernel, show cmpE 3 c64 zD 2 m1 1048576 = 0 by decide +kernel] at h
  exact h.eqv ⟨PT.eqv_refl _, ⟨rfl, rfl, hf⟩, trivial⟩ (PV.eqv_refl _)
theorem h_recs {n n' : Nat} {m m' : Nat → Nat} {D D' : Nat → Nat → Int} (h1 : n ≤ 100) (h2 : n' ≤ 100) (h3 : ∀ i, i < n → m i ≤ 100) (h4 : ∀ i, i < n' → m' i ≤ 100) (h : recsB n m D n' m' D' = true) {f f' : Nat → Nat → IV} (hf : ∀ i o, i < n → o < 1 → (f i o).eqv (rowsI m D i o)) (hf' : ∀ i o, i < n' → o < 1 → (f' i o).eqv (rowsI m' D' i o)) : CallsP Try.prog 26 [.one (.lst 1 n f), .one (.lst 1 n' f')] (.t (.one (.g (.bool true)))) := by
  have e := recs_p n m D n' m' D' (by omega) (by omega) (fun i hi => by have := h3 i hi; omega) (fun i hi => by have := h4 i hi; omega)
  rw [h] at e
  exact e.eqv ⟨⟨rfl, rfl, hf⟩, ⟨rfl, rfl, hf'⟩, trivial⟩ (PV.eqv_refl _)
theorem wrR_b {D : Nat → Nat → Int} {B : Nat → Int} (hD : BytD D) (hB : Byt B) (s p af q : Nat) : BytD (wrR D B s p af q) := fun i j => by
  unfold wrR
  split
  · exact hB _
  · exact hD i j
theorem formF_b {r : Nat} {R : Nat → Int} (hR : Byt R) : Byt (formF r R) := fun i => by
  rcases i with _ | _ | _ | i
  · show (0 : Int) ≤ 1 ∧ (1 : Int) < 256; omega
  · show 0 ≤ (r : Int) / 256 % 256 ∧ (r : Int) / 256 % 256 < 256; omega
  · show 0 ≤ (r : Int) % 256 ∧ (r : Int) % 256 < 256; omega
  · exact hR i
theorem ap1_b {b : Nat → Int} {e r : Nat} {R : Nat → Int} (hb : Byt b) (hR : Byt R) : Byt (ap1 b e r R) := fun i => by
  unfold ap1
  split
  · exact ⟨by decide, by decide⟩
  · split
    · exact formF_b hR _
    · split
      · exact ⟨by decide, by decide⟩
      · exact hb i
theorem ap2_b {b : Nat → Int} {e r : Nat} {R : Nat → Int} (hb : Byt b) (hR : Byt R) : Byt (ap2 b e r R) := fun i => by
  unfold ap2
  split
  · exact ⟨by decide, by decide⟩
  · exact ap1_b hb hR i
theorem apH_b {n : Nat} {D : Nat → Nat → Int} {r : Nat} {R : Nat → Int} {af : Nat} (hD : BytD D) (hR : Byt R) : BytD (apH n D r R af) := by
  have hb : Byt (hv n D) := hD.half n _
  unfold apH apD
  exact wrR_b (wrR_b hD (ap1_b hb hR) _ _ _ _) (ap2_b hb hR) _ _ _ _
theorem encB_b {m : Nat → Nat} {D : Nat → Nat → Int} (hD : BytD D) : ∀ k, Byt (encB m D k)
  | 0, p => by simp only [encB]; omega
  | k + 1, p => by
    simp only [encB]
    split
    · exact formF_b (hD k) _
    · exact encB_b hD k p
theorem cmpD_b {n : Nat} {D : Nat → Nat → Int} {n' : Nat} {m' : Nat → Nat} {D' : Nat → Nat → Int} {af : Nat} (hD : BytD D) (h0 : D 0 0 ≤ 1) (hD' : BytD D') : BytD (cmpD n D n' m' D' af) := by
  unfold cmpD
  refine wrR_b (wrR_b hD (fun p => ?_) _ _ _ _) (fun p => ?_) _ _ _ _
  · unfold cmpF
    split
    · exact encB_b hD' _ _
    · exact ⟨by decide, by decide⟩
  · unfold sw0
    split
    · have := hD 0 0; omega
    · exact hD 0 p

def sb (l : List Int) (_ i : Nat) : Int := l.getD i 0
def e1 : Nat → Nat → Int := sb [1, 0, 2, 7, 8, 0]
def e2 : Nat → Nat → Int := sb [1, 0, 1, 5, 1, 0, 1, 6, 0]
def mk (k : Nat) (_ : Nat) : Nat := k
def s1D (D : Nat → Nat → Int) (i : Nat) (_ : Nat) : Nat → Int := D i
def row1 (D : Nat → Nat → Int) (i : Nat) (_ : Nat) : Nat → Int := D i
theorem q1 : recsB 1 (mk 6) (row1 D1 1) 1 (mk 6) e1 = true := by decide +kernel
theorem q2 : recsB 1 (recL (hv 3 Db)) (recF (hv 3 Db)) 1 (mk 2) (fun _ => r78) = true := by decide +kernel
theorem q3 : recsB 2 (recL (hv 3 D2)) (recF (hv 3 D2)) 2 m1 v56 = true := by decide +kernel
theorem q4 : recsB 1 (mk 9) (row1 D2 2) 1 (mk 9) e2 = true := by decide +kernel
theorem q5 : readN 3 c64 Da = 0 ∧ rdE 3 c64 Da = 0 ∧ readN 3 c64 Db = 1 ∧ rdE 3 c64 Db = 0 ∧ readN 3 c64 D2 = 2 ∧ rdE 3 c64 D2 = 0 ∧ vB 3 c64 D1 = true ∧ D2 0 0 = 1 := by
  refine ⟨?_, ?_, ?_, ?_, ?_, ?_, ?_, ?_⟩ <;> decide +kernel
theorem q6 : costV 3 c64 zD 2 = 128 ∧ cutE 3 c64 zD 2 0 = 0 ∧ costV 3 c64 zD 61 = 128 ∧ cutE 3 c64 zD 61 0 = 0 ∧ costV 3 c64 zD 62 = 0 ∧ cutE 3 c64 zD 62 0 = 17 ∧ cutE 3 c64 zD 2 64 = 0 ∧ cutE 3 c64 zD 2 65 = 0 := by
  refine ⟨?_, ?_, ?_, ?_, ?_, ?_, ?_, ?_⟩ <;> decide +kernel
theorem v56_b : BytD v56 := fun i _ => by unfold v56; split <;> decide
theorem h_valid : CallsP Try.prog 13 [.agg [.lst 1 3 (rowsI c64 D1)]] (.t (.one (.g (.bool true)))) := by
  have h := valid_p 3 c64 D1 (by decide) (c64_le 3) (apH_b zD_b r78_b)
  rw [q5.2.2.2.2.2.2.1] at h
  exact h
theorem rl_bd {n : Nat} {D : Nat → Nat → Int} (hD : BytD D) (i : Nat) : recL (hv n D) i ≤ 65536 := by
  have := (rl_int (hD.half n (D 0 0).toNat) (posS (hv n D) i)).2
  unfold recL hv at *
  omega

theorem rp6 (c : CV) : repC [c] 6 = [c, c, c, c, c, c] := rfl
theorem rp9 (c : CV) : repC [c] 9 = [c, c, c, c, c, c, c, c, c] := rfl
theorem rp61 (c : IV) : repC [.iv c] 61 = rowV (fun _ => c) 61 := repC_row _ _
theorem rp62 (c : IV) : repC [.iv c] 62 = rowV (fun _ => c) 62 := repC_row _ _
theorem tn61 : Int.toNat 61 = 61 := rfl
theorem tn62 : Int.toNat 62 = 62 := rfl
theorem z00 : (((0 : Nat) : Int) == 0) = true := rfl
theorem rl_1 : ∀ i, i < 1 → recL (hv 3 Db) i ≤ 100 := by decide +kernel
theorem rl_2 : ∀ i, i < 2 → recL (hv 3 D2) i ≤ 100 := by decide +kernel

set_option maxRecDepth 100000 in
set_option maxHeartbeats 4000000 in
theorem head_p  : CallsP Try.prog 11 [] (.t (.one (.g (.bool (true))))) := by
  have hda : apH 3 zD 2 r78 (Int.toNat 64) = Da := rfl
  have hdb : apH 3 zD 2 r78 (Int.toNat 65) = Db := rfl
  have hdc : (zD : Nat → Nat → Int) = zD := rfl
  refine CallsP_of Try.func11 rfl (by rw [Try.ntmps11]; simp) ?_
  simp only [Try.ntmps11, List.map_cons, List.map_nil, PT.tv, argEnv, Nat.zero_add, Nat.reduceAdd]
  repeat' (first
    | ((refine callN_zq (k := 18) [1] ?_ ?_); focus ((refine Need.mk ?_); simp only [go_sem, frzsOk, frzOk, rowV_all, civ_iv, forall_eq_or_imp, forall_eq, List.mem_cons, List.not_mem_nil, or_false, and_true, isIv_iv, implies_true, false_implies, reduceIte, reduceCtorEq, Nat.reduceAdd, Nat.reduceEqDiff]; done))
    | ((refine callN_zq (k := 26) [4] ?_ ?_); focus ((refine Need.mk ?_); simp only [go_sem, frzsOk, frzOk, rowV_all, civ_iv, forall_eq_or_imp, forall_eq, List.mem_cons, List.not_mem_nil, or_false, and_true, isIv_iv, implies_true, false_implies, reduceIte, reduceCtorEq, Nat.reduceAdd, Nat.reduceEqDiff]; done))
    | ((refine callN_zq (k := 26) [15] ?_ ?_); focus ((refine Need.mk ?_); simp only [go_sem, frzsOk, frzOk, rowV_all, civ_iv, forall_eq_or_imp, forall_eq, List.mem_cons, List.not_mem_nil, or_false, and_true, isIv_iv, implies_true, false_implies, reduceIte, reduceCtorEq, Nat.reduceAdd, Nat.reduceEqDiff]; done))
    | ((refine callN_zq (k := 26) [21, 22] ?_ ?_); focus ((refine Need.mk ?_); simp only [go_sem, frzsOk, frzOk, rowV_all, civ_iv, forall_eq_or_imp, forall_eq, List.mem_cons, List.not_mem_nil, or_false, and_true, isIv_iv, implies_true, false_implies, reduceIte, reduceCtorEq, Nat.reduceAdd, Nat.reduceEqDiff]; done))
    | ((refine callN_zq (k := 26) [25] ?_ ?_); focus ((refine Need.mk ?_); simp only [go_sem, frzsOk, frzOk, rowV_all, civ_iv, forall_eq_or_imp, forall_eq, List.mem_cons, List.not_mem_nil, or_false, and_true, isIv_iv, implies_true, false_implies, reduceIte, reduceCtorEq, Nat.reduceAdd, Nat.reduceEqDiff]; done))
    | ((refine callN_zq (k := 20) [11] ?_ ?_); focus ((refine Need.mk ?_); simp only [go_sem, frzsOk, frzOk, rowV_all, civ_iv, forall_eq_or_imp, forall_eq, List.mem_cons, List.not_mem_nil, or_false, and_true, isIv_iv, implies_true, false_implies, reduceIte, reduceCtorEq, Nat.reduceAdd, Nat.reduceEqDiff]; done))
    | ((refine callN_zq (k := 20) [13] ?_ ?_); focus ((refine Need.mk ?_); simp only [go_sem, frzsOk, frzOk, rowV_all, civ_iv, forall_eq_or_imp, forall_eq, List.mem_cons, List.not_mem_nil, or_false, and_true, isIv_iv, implies_true, false_implies, reduceIte, reduceCtorEq, Nat.reduceAdd, Nat.reduceEqDiff]; done))
    | ((refine callN_zq (k := 29) [17, 18, 19] ?_ ?_); focus ((refine Need.mk ?_); simp only [go_sem, frzsOk, frzOk, rowV_all, civ_iv, forall_eq_or_imp, forall_eq, List.mem_cons, List.not_mem_nil, or_false, and_true, isIv_iv, implies_true, false_implies, reduceIte, reduceCtorEq, Nat.reduceAdd, Nat.reduceEqDiff]; done))
    | ((refine callN_q (k := 18) fnok_18 (h_app ?_) ?_ ?_); (focus (intro i o hi ho; obtain rfl : o = 0 := (by omega); rcases i with _ | _ | i <;> first | omega | exact IV.eqv_refl _)))
    | ((refine callN_q (k := 20) fnok_20 (h_cut 64 (by omega) q6.2.2.2.2.2.2.1 ?_) ?_ ?_); (focus (intro i o hi ho; obtain rfl : o = 0 := (by omega); rcases i with _ | _ | i <;> first | omega | exact IV.eqv_refl _)))
    | ((refine callN_q (k := 20) fnok_20 (h_cut 65 (by omega) q6.2.2.2.2.2.2.2 ?_) ?_ ?_); (focus (intro i o hi ho; obtain rfl : o = 0 := (by omega); rcases i with _ | _ | i <;> first | omega | exact IV.eqv_refl _)))
    | ((refine callN_q (k := 22) fnok_22 (h_cost 2 r78 128 0 (by omega) q6.1 q6.2.1 ?_) ?_ ?_); (focus (intro i o hi ho; obtain rfl : o = 0 := (by omega); rcases i with _ | _ | i <;> first | omega | exact IV.eqv_refl _)))
    | ((refine callN_q (k := 22) fnok_22 (h_cost 61 (fun _ => 0) 128 0 (by omega) q6.2.2.1 q6.2.2.2.1 ?_) ?_ ?_); (focus (intro i o hi ho; exact rowV_eqv' (F := bytI fun _ => 0) (fun j hj => IV.eqv_refl _) i o hi ho)))
    | ((refine callN_q (k := 22) fnok_22 (h_cost 62 (fun _ => 0) 0 17 (by omega) q6.2.2.2.2.1 q6.2.2.2.2.2.1 ?_) ?_ ?_); (focus (intro i o hi ho; exact rowV_eqv' (F := bytI fun _ => 0) (fun j hj => IV.eqv_refl _) i o hi ho)))
    | ((refine callN_q (k := 29) fnok_29 (h_compact ?_) ?_ ?_); (focus (intro i o hi ho; first | exact IV.eqv_refl _ | (obtain rfl : o = 0 := (by omega); rcases i with _ | _ | i <;> first | omega | exact IV.eqv_refl _ | (refine ⟨rfl, rfl, fun i o hi ho => ?_⟩; obtain rfl : o = 0 := (by omega); first | exact IV.eqv_refl _ | (rcases i with _ | _ | _ | _ | _ | _ | _ | _ | _ | i <;> first | omega | exact IV.eqv_refl _))))))
    | ((refine callN_q (k := 26) fnok_26 (h_recs (m := mk 6) (D := row1 D1 1) (m' := mk 6) (D' := e1) (by omega) (by omega) (fun i _ => (by decide : 6 ≤ 100)) (fun i _ => (by decide : 6 ≤ 100)) q1 ?_ ?_) ?_ ?_); (focus (intro i o hi ho; first | exact IV.eqv_refl _ | (obtain rfl : o = 0 := (by omega); rcases i with _ | _ | i <;> first | omega | exact IV.eqv_refl _ | (refine ⟨rfl, rfl, fun i o hi ho => ?_⟩; obtain rfl : o = 0 := (by omega); first | exact IV.eqv_refl _ | (rcases i with _ | _ | _ | _ | _ | _ | _ | _ | _ | i <;> first | omega | exact IV.eqv_refl _))))); (focus (intro i o hi ho; first | exact IV.eqv_refl _ | (obtain rfl : o = 0 := (by omega); rcases i with _ | _ | i <;> first | omega | exact IV.eqv_refl _ | (refine ⟨rfl, rfl, fun i o hi ho => ?_⟩; obtain rfl : o = 0 := (by omega); first | exact IV.eqv_refl _ | (rcases i with _ | _ | _ | _ | _ | _ | _ | _ | _ | i <;> first | omega | exact IV.eqv_refl _))))))
    | ((refine callN_q (k := 26) fnok_26 (h_recs (m' := mk 2) (D' := fun _ => r78) (by omega) (by omega) rl_1 (fun i _ => (by decide : 2 ≤ 100)) q2 ?_ ?_) ?_ ?_); (focus (intro i o hi ho; first | exact IV.eqv_refl _ | (obtain rfl : o = 0 := (by omega); rcases i with _ | _ | i <;> first | omega | exact IV.eqv_refl _ | (refine ⟨rfl, rfl, fun i o hi ho => ?_⟩; obtain rfl : o = 0 := (by omega); first | exact IV.eqv_refl _ | (rcases i with _ | _ | _ | _ | _ | _ | _ | _ | _ | i <;> first | omega | exact IV.eqv_refl _))))); (focus (intro i o hi ho; first | exact IV.eqv_refl _ | (obtain rfl : o = 0 := (by omega); rcases i with _ | _ | i <;> first | omega | exact IV.eqv_refl _ | (refine ⟨rfl, rfl, fun i o hi ho => ?_⟩; obtain rfl : o = 0 := (by omega); first | exact IV.eqv_refl _ | (rcases i with _ | _ | _ | _ | _ | _ | _ | _ | _ | i <;> first | omega | exact IV.eqv_refl _))))))
    | ((refine callN_q (k := 26) fnok_26 (h_recs (m' := m1) (D' := v56) (by omega) (by omega) rl_2 (fun i _ => (by decide : 1 ≤ 100)) q3 ?_ ?_) ?_ ?_); (focus (intro i o hi ho; first | exact IV.eqv_refl _ | (obtain rfl : o = 0 := (by omega); rcases i with _ | _ | i <;> first | omega | exact IV.eqv_refl _ | (refine ⟨rfl, rfl, fun i o hi ho => ?_⟩; obtain rfl : o = 0 := (by omega); first | exact IV.eqv_refl _ | (rcases i with _ | _ | _ | _ | _ | _ | _ | _ | _ | i <;> first | omega | exact IV.eqv_refl _))))); (focus (intro i o hi ho; first | exact IV.eqv_refl _ | (obtain rfl : o = 0 := (by omega); rcases i with _ | _ | i <;> first | omega | exact IV.eqv_refl _ | (refine ⟨rfl, rfl, fun i o hi ho => ?_⟩; obtain rfl : o = 0 := (by omega); first | exact IV.eqv_refl _ | (rcases i with _ | _ | _ | _ | _ | _ | _ | _ | _ | i <;> first | omega | exact IV.eqv_refl _))))))
    | ((refine callN_q (k := 26) fnok_26 (h_recs (m := mk 9) (D := row1 D2 2) (m' := mk 9) (D' := e2) (by omega) (by omega) (fun i _ => (by decide : 9 ≤ 100)) (fun i _ => (by decide : 9 ≤ 100)) q4 ?_ ?_) ?_ ?_); (focus (intro i o hi ho; first | exact IV.eqv_refl _ | (obtain rfl : o = 0 := (by omega); rcases i with _ | _ | i <;> first | omega | exact IV.eqv_refl _ | (refine ⟨rfl, rfl, fun i o hi ho => ?_⟩; obtain rfl : o = 0 := (by omega); first | exact IV.eqv_refl _ | (rcases i with _ | _ | _ | _ | _ | _ | _ | _ | _ | i <;> first | omega | exact IV.eqv_refl _))))); (focus (intro i o hi ho; first | exact IV.eqv_refl _ | (obtain rfl : o = 0 := (by omega); rcases i with _ | _ | i <;> first | omega | exact IV.eqv_refl _ | (refine ⟨rfl, rfl, fun i o hi ho => ?_⟩; obtain rfl : o = 0 := (by omega); first | exact IV.eqv_refl _ | (rcases i with _ | _ | _ | _ | _ | _ | _ | _ | _ | i <;> first | omega | exact IV.eqv_refl _))))))
    | ((refine callDN_q (k := 22) fnok_22 (h_cost 2 r78 128 0 (by omega) q6.1 q6.2.1 ?_) ?_ ?_); (focus (intro i o hi ho; obtain rfl : o = 0 := (by omega); rcases i with _ | _ | i <;> first | omega | exact IV.eqv_refl _)))
    | ((refine callDN_q (k := 22) fnok_22 (h_cost 61 (fun _ => 0) 128 0 (by omega) q6.2.2.1 q6.2.2.2.1 ?_) ?_ ?_); (focus (intro i o hi ho; exact rowV_eqv' (F := bytI fun _ => 0) (fun j hj => IV.eqv_refl _) i o hi ho)))
    | ((refine callDN_q (k := 22) fnok_22 (h_cost 62 (fun _ => 0) 0 17 (by omega) q6.2.2.2.2.1 q6.2.2.2.2.2.1 ?_) ?_ ?_); (focus (intro i o hi ho; exact rowV_eqv' (F := bytI fun _ => 0) (fun j hj => IV.eqv_refl _) i o hi ho)))
    | (with_reducible refine AW_seq_k fun K hK => ?_)
    | ((first | (with_reducible refine And.intro ?_ ?_) | (with_reducible refine Need.mk ?_)); focus (first | exact True.intro | (with_reducible assumption) | omega | (refine ⟨?_, ?_⟩ <;> omega) | (intro _; first | exact True.intro | (with_reducible assumption) | omega) | (intros; (repeat' (first | exact True.intro | omega | (with_reducible assumption) | (with_reducible refine And.intro ?_ ?_))); done) | (simp (disch := omega) only [Bool.and_eq_true, Bool.or_eq_true, decide_eq_true_eq, bne_iff_ne, ne_eq] at *; first | done | omega | (intros; omega)) | (simp; done) | (simp; omega) | (simp +contextual; done) | (intro h; rw [h]; rfl) | (intros; simp_all; done)))
    | (with_reducible refine AW_skip ?_)
    | (with_reducible refine AW_exit ?_)
    | (with_reducible refine AW_ret ?_)
    | (with_reducible refine retK_n ?_)
    | (with_reducible refine retK_n' ?_)
    | (with_reducible refine retH_n rfl rfl rfl ?_)
    | (with_reducible refine retH_n' rfl rfl rfl ?_)
    | (with_reducible refine retO_n ?_ ?_)
    | (with_reducible refine retO_n' ?_ ?_)
    | (with_reducible refine AW_condI ?_)
    | (with_reducible refine AW_block ?_)
    | ((with_reducible refine condN_t ?_ ?_) <;> (intro hc; (try simp only [Bool.and_eq_true, Bool.or_eq_true, Bool.not_eq_true', Bool.and_eq_false_iff, Bool.or_eq_false_iff, decide_eq_true_eq, decide_eq_false_iff_not, bne_iff_ne, beq_iff_eq, reduceCtorEq, bne_eq_false_iff_eq, beq_eq_false_iff_ne, Bool.not_eq_false', Int.not_le, Int.not_lt, Bool.not_not] at hc); (skip); (try (exfalso; first | contradiction | omega))))
    | (with_reducible refine AW_regionP 0 [] ?_)
    | (with_reducible refine AW_regionP 1 [] ?_)
    | (with_reducible refine AW_regionP 2 [1, 2] ?_)
    | (with_reducible refine AW_regionP 3 [1, 2, 3, 4] ?_)
    | (with_reducible refine AW_regionP 4 [1, 2, 3, 4, 5, 6] ?_)
    | (with_reducible refine AW_regionP 5 [1, 2, 3, 4, 5, 6, 7, 8] ?_)
    | (with_reducible refine AW_regionP 6 [] ?_)
    | (with_reducible refine AW_regionP 7 [1, 7] ?_)
    | (with_reducible refine AW_regionP 8 [1, 9] ?_)
    | ((with_reducible refine AW_prune (c := Code.region 9 _ true) [1, 2, 9, 10] ?_); (with_reducible refine AW_regionD ?_ ?_ ?_ ?_); (focus kernel_rfl); (focus kernel_rfl); (focus kernel_rfl))
    | ((with_reducible refine AW_prune (c := Code.region 10 _ true) [1, 2, 4, 9, 10, 11] ?_); (with_reducible refine AW_regionD ?_ ?_ ?_ ?_); (focus kernel_rfl); (focus kernel_rfl); (focus kernel_rfl))
    | (with_reducible refine AW_regionP 11 [1, 2, 4, 6, 9, 10, 11] ?_)
    | (with_reducible refine AW_regionP 12 [1, 9] ?_)
    | (with_reducible refine AW_regionP 13 [1, 2, 9, 12] ?_)
    | (with_reducible refine AW_regionP 14 [1, 2, 4, 9, 12, 13] ?_)
    | (with_reducible refine AW_regionP 15 [1, 2, 4, 6, 9, 13, 14] ?_)
    | (with_reducible refine AW_regionP 16 [1, 2, 4, 6, 8, 9, 14, 15] ?_)
    | (with_reducible refine AW_regionP 17 [1, 9] ?_)
    | (with_reducible refine AW_regionP 18 [2, 9, 16] ?_)
    | (with_reducible refine AW_regionP 19 [2, 4, 9, 16, 17] ?_)
    | (with_reducible refine AW_regionP 20 [] ?_)
    | (with_reducible refine AW_regionP 21 [9, 16, 17] ?_)
    | ((with_reducible refine And.intro ?_ ?_); focus ((with_reducible show chkR _ _ _ = true); kernel_rfl))
    | (refine callN_q (k := 15) fnok_15 (h_new) ?_ ?_)
    | (refine callN_q (k := 24) fnok_24 (h_read0) ?_ ?_)
    | (refine callN_q (k := 24) fnok_24 (h_read Da (apH_b zD_b r78_b) 0 q5.1 q5.2.1) ?_ ?_)
    | (refine callN_q (k := 24) fnok_24 (h_read Db (apH_b zD_b r78_b) 1 q5.2.2.1 q5.2.2.2.1) ?_ ?_)
    | (refine callN_q (k := 24) fnok_24 (h_read D2 (cmpD_b zD_b (by decide) v56_b) 2 q5.2.2.2.2.1 q5.2.2.2.2.2.1) ?_ ?_)
    | (refine callN_q (k := 27) fnok_27 (h_room) ?_ ?_)
    | (refine callGN_q (k := 13) fnok_13 (fun hg => h_valid) ?_ ?_)
    | ((refine callGN_sq (k := 26) ?_ ?_) <;> (intro hc; (try simp only [Bool.and_eq_true, Bool.or_eq_true, Bool.not_eq_true', Bool.and_eq_false_iff, Bool.or_eq_false_iff, decide_eq_true_eq, decide_eq_false_iff_not, bne_iff_ne, beq_iff_eq, reduceCtorEq, bne_eq_false_iff_eq, beq_eq_false_iff_ne, Bool.not_eq_false', Int.not_le, Int.not_lt, Bool.not_not] at hc); (try (exfalso; first | contradiction | omega))))
    | ((fail_if_success (with_reducible show AW _ _ _ _)); simp (maxSteps := 2000000) only [go_sem, reduceIte, reduceCtorEq, Nat.reduceAdd, Nat.reduceLT, Nat.reduceLeDiff, Nat.reduceEqDiff, Nat.reduceMul, Nat.reduceSub, Nat.reduceBEq, Try.f11, fnok_15, zc_24, ty_24, fnok_24, fnok_27, sl_25, zc_5, fnok_18, le_22, fnok_13, of_24_0, ty_22, sl_22, ar_22, ty_25, le_25, zc_25, fnok_26, fnok_22, fnok_20, fnok_29, ar_25, ty_5, bytI, rowsI, toNat64, Int.toNat_natCast, c64, q5, rp6, rp9, z00, rp61, rp62, tn61, tn62, maxLen, hda, hdb, hdc])
    | ((with_reducible refine hK _ ?_); clear hK K))
  all_goals skip

end Go.Proofs.Ytifoncmlelinjaa
