/- J: walks on abstract states. -/
import Derived.Test.YtbckibbgajfihaaGreatP
set_option linter.unusedVariables false
set_option linter.unusedSimpArgs false
namespace Go.Proofs.YtbckibbgajfihaaGreat
open Go.RowKit Go.Sea
theorem fnok_11 : fnOk Tryz.prog 11 = true := by kernel_rfl
theorem fnok_16 : fnOk Tryz.prog 16 = true := by kernel_rfl
theorem fnok_13 : fnOk Tryz.prog 13 = true := by kernel_rfl
theorem fnok_21 : fnOk Tryz.prog 21 = true := by kernel_rfl
theorem fnok_26 : fnOk Tryz.prog 26 = true := by kernel_rfl
theorem fnok_18 : fnOk Tryz.prog 18 = true := by kernel_rfl

def accOne : Acc := ⟨2, 60, 2, shTwo 150, 1, fun _ => 3⟩
def fbd (a : Nat → Acc) (n : Nat) : Prop := ∀ i, i < n → (a i).m ≤ 9223372036854775807 ∧ (a i).q ≤ 9223372036854775807
theorem two_bd (n : Nat) : fbd accTwo n := fun i _ => by
  rcases i with _ | i <;> exact ⟨(by omega : 2 ≤ 9223372036854775807), (by omega : 2 ≤ 9223372036854775807)⟩
theorem con_01 : conL (accTwo 0) (accTwo 1) = [3, 5] := by rw [con_raw]; decide +kernel
theorem con_00 : conL acc0 (accTwo 0) = [3, 5] := by rw [con_raw]; decide +kernel
theorem con_02 : conL (accTwo 0) accOne = [3, 5] := by rw [con_raw]; decide +kernel
theorem sg_00 : sgdB acc0 (accTwo 0) = true := by unfold sgdB; rw [con_00]; decide +kernel
theorem sg_01 : sgdB (accTwo 0) (accTwo 1) = true := by unfold sgdB; rw [con_01]; decide +kernel
theorem sg_02 : sgdB (accTwo 0) accOne = false := by unfold sgdB; rw [con_02]; decide +kernel
theorem v_0 : valB (accTwo 0) = true := by decide +kernel
theorem v_1 : valB (accTwo 1) = true := by decide +kernel
theorem v_2 : valB accOne = true := by decide +kernel
theorem fol_00 : folV acc0 (accTwo 0) = 0 := by
  unfold folV; rw [v_0, sg_00]; decide
theorem fol_01 : folV (accTwo 0) (accTwo 1) = 0 := by
  unfold folV; rw [v_1, sg_01]; decide
theorem fol_02 : folV (accTwo 0) accOne = 21 := by
  unfold folV; rw [v_2, sg_02]; decide
theorem list_1 : listB 1 accTwo = true := decide_eq_true ⟨by omega, fun i hi => by
  rcases i with _ | i
  · exact fol_00
  · omega⟩
theorem list_2 : listB 2 accTwo = true := decide_eq_true ⟨by omega, fun i hi => by
  rcases i with _ | _ | i
  · exact fol_00
  · exact fol_01
  · omega⟩
theorem own_b (x y t : Int) (h : (vbox x x y y && decide (0 ≤ t ∧ t ≤ 10000000)) = true) : ownB 2 accTwo x y t = true := by
  unfold ownB; rw [list_2, Bool.true_and]; exact h
theorem ow1 : ownV 2 accTwo 100 7 10 = 3 ∧ ownE 2 accTwo 100 7 10 = 0 := by
  unfold ownV ownE; rw [own_b _ _ _ (by decide +kernel)]; decide +kernel
theorem ow2 : ownV 2 accTwo 101 7 10 = 5 ∧ ownE 2 accTwo 101 7 10 = 0 := by
  unfold ownV ownE; rw [own_b _ _ _ (by decide +kernel)]; decide +kernel
theorem ow3 : ownV 2 accTwo 101 7 60 = 3 ∧ ownE 2 accTwo 101 7 60 = 0 := by
  unfold ownV ownE; rw [own_b _ _ _ (by decide +kernel)]; decide +kernel
theorem ow4 : ownV 2 accTwo 300 7 60 = 0 ∧ ownE 2 accTwo 300 7 60 = 4 := by
  unfold ownV ownE; rw [own_b _ _ _ (by decide +kernel)]; decide +kernel
theorem cr1 : conR (accTwo 0) (accTwo 1) = [3, 5] ∧ conE (accTwo 0) (accTwo 1) = 0 := by
  have h : cmpB (accTwo 0) (accTwo 1) = true := by decide +kernel
  exact ⟨by unfold conR; rw [if_pos h, con_01], by unfold conE; rw [if_pos h]⟩
theorem cr2 : conR acc0 (accTwo 0) = [3, 5] ∧ conE acc0 (accTwo 0) = 0 := by
  have h : cmpB acc0 (accTwo 0) = true := by decide +kernel
  exact ⟨by unfold conR; rw [if_pos h, con_00], by unfold conE; rw [if_pos h]⟩
theorem mv1 : mvR (accTwo 0) (accTwo 1) = [shM (accTwo 0) (accTwo 1) 0 1] := by
  have h : cmpB (accTwo 0) (accTwo 1) = true := by decide +kernel
  unfold mvR; rw [if_pos h]
  have e0 : ¬ clM (accTwo 0) (accTwo 1) 0 0 := by decide +kernel
  have e1 : clM (accTwo 0) (accTwo 1) 0 1 := by decide +kernel
  have e2 : ¬ clM (accTwo 0) (accTwo 1) 1 0 := by decide +kernel
  have e3 : ¬ clM (accTwo 0) (accTwo 1) 1 1 := by decide +kernel
  show mvQ (accTwo 0) (accTwo 1) 1 (mvQ (accTwo 0) (accTwo 1) 0 [] 2) 2 = _
  simp only [mvQ, e0, e1, e2, e3, if_true, if_false, List.nil_append]
theorem nx1 : nextE 1 accTwo accOne = 21 := by
  unfold nextE; rw [if_pos ⟨list_1, v_2⟩, if_neg (by omega)]; exact fol_02
theorem nx2 : nextE 1 accTwo (accTwo 1) = 0 := by
  unfold nextE; rw [if_pos ⟨list_1, v_1⟩, if_neg (by omega)]; exact fol_01

theorem cc_r : (PV.tup [.one (.lst 1 ([3, 5] : List Int).length (intI fun i => ([3, 5] : List Int).getD i 0)), .one (.g (.int .i64 0))]).eqv (.tup [.one (.lst 1 2 (intI sgTwo)), .one (.g (.int .i64 0))]) :=
  ⟨⟨rfl, rfl, fun i o hi ho => by rcases i with _ | _ | i; exact IV.eqv_refl _; exact IV.eqv_refl _; exact absurd hi (by show ¬ i + 1 + 1 < 2; omega)⟩, IV.eqv_refl _, trivial⟩
theorem cc_1 : CallsP Tryz.prog 13 [accP (accTwo 0), accP (accTwo 1)] (.tup [.one (.lst 1 2 (intI sgTwo)), .one (.g (.int .i64 0))]) := by
  have h := concerns_p (accTwo 0) (accTwo 1) (by decide) (by decide) (by decide) (by decide)
  rw [cr1.1, cr1.2] at h
  exact h.eqv ⟨PT.eqv_refl _, PT.eqv_refl _, trivial⟩ cc_r
theorem cc_0 : CallsP Tryz.prog 13 [.agg [.g (.int .i64 0), .g (.int .i64 0), .g (.slice none 0 0), .g (.slice none 0 0)], accP (accTwo 0)] (.tup [.one (.lst 1 2 (intI sgTwo)), .one (.g (.int .i64 0))]) := by
  have h := concerns_p acc0 (accTwo 0) (by decide) (by decide) (by decide) (by decide)
  rw [cr2.1, cr2.2] at h
  exact h.eqv ⟨⟨rfl, rfl, ⟨rfl, rfl⟩, ⟨rfl, rfl⟩, trivial⟩, PT.eqv_refl _, trivial⟩ cc_r
theorem mm_1 : CallsP Tryz.prog 21 [accP (accTwo 0), accP (accTwo 1)] (.tup [.one (.lst 5 1 (cellI fun _ o => s5 3 100 150 o)), .one (.g (.int .i64 0))]) := by
  have h := moved_p (accTwo 0) (accTwo 1) (by decide) (by decide) (by decide) (by decide)
  rw [cr1.2, mv1] at h
  refine h.eqv ⟨PT.eqv_refl _, PT.eqv_refl _, trivial⟩ ⟨⟨rfl, rfl, fun i o hi ho => ?_⟩, IV.eqv_refl _, trivial⟩
  obtain rfl : i = 0 := by (have : i < 1 := hi); omega
  have e : shM (accTwo 0) (accTwo 1) 0 1 o = s5 3 100 150 o := by
    rcases o with _ | _ | _ | _ | _ | o
    · decide +kernel
    · decide +kernel
    · decide +kernel
    · decide +kernel
    · decide +kernel
    · omega
  show IV.eqv (.g (.int .i64 (shM (accTwo 0) (accTwo 1) 0 1 o))) (.g (.int .i64 (s5 3 100 150 o)))
  rw [e]; exact IV.eqv_refl _
theorem nn_2 : CallsP Tryz.prog 16 [.one (.lst 4 1 (accF accTwo)), accP (accTwo 1)] (.tup [.one (.lst 4 2 (accF accTwo)), .one (.g (.int .i64 0))]) := by
  have h := next_p 1 accTwo (accTwo 1) (by decide) (by decide) (by decide) (two_bd 1)
  have e : nextN 1 accTwo (accTwo 1) = 2 := by unfold nextN; rw [if_pos nx2]
  rw [nx2, e] at h
  refine h.eqv ⟨PT.eqv_refl _, PT.eqv_refl _, trivial⟩ ⟨⟨rfl, rfl, fun i o hi ho => ?_⟩, IV.eqv_refl _, trivial⟩
  have e : accF (pushA 1 accTwo (accTwo 1)) i = accF accTwo i := by
    rcases i with _ | _ | i
    · exact accF_congr rfl
    · exact accF_congr rfl
    · omega
  rw [e]; exact IV.eqv_refl _
theorem nn_1 {f : Nat → Nat → IV} (hf : ∀ i o, i < 1 → o < 1 → (f i o).eqv (.g (.int .i64 3))) : CallsP Tryz.prog 16 [.one (.lst 4 1 (accF accTwo)), .agg [.g (.int .i64 (accTwo 1).ver), .g (.int .i64 (accTwo 1).frm), .lst 5 (accTwo 1).m (cellI (accTwo 1).sh), .lst 1 1 f]] (.tup [.one (.lst 4 0 (accF accTwo)), .one (.g (.int .i64 21))]) := by
  have h := next_p 1 accTwo accOne (by decide) (by decide) (by decide) (two_bd 1)
  have e : nextN 1 accTwo accOne = 0 := by unfold nextN; rw [nx1]; rfl
  rw [nx1, e] at h
  exact h.eqv ⟨PT.eqv_refl _, ⟨rfl, rfl, IV.eqv_refl _, ⟨rfl, rfl, hf⟩, trivial⟩, trivial⟩ ⟨⟨rfl, rfl, fun i o hi ho => absurd hi (Nat.not_lt_zero _)⟩, IV.eqv_refl _, trivial⟩
theorem ii_1 {f : Nat → Nat → IV} (hf : ∀ i o, i < 2 → o < 1 → (f i o).eqv (intI sgTwo i o)) : CallsP Tryz.prog 15 [.one (.lst 1 2 (intI sgTwo)), .one (.lst 1 2 f)] (.t (.one (.g (.bool (true))))) := by
  have h := ints_p 2 2 sgTwo sgTwo (by decide)
  rw [show eqL 2 2 sgTwo sgTwo = true from decide_eq_true ⟨rfl, fun _ _ => rfl⟩] at h
  exact h.eqv ⟨PT.eqv_refl _, ⟨rfl, rfl, hf⟩, trivial⟩ (PV.eqv_refl _)
theorem sh_1 {f : Nat → Nat → IV} (hf : ∀ i o, i < 1 → o < 5 → (f i o).eqv (cellI (fun _ o => s5 3 100 150 o) i o)) : CallsP Tryz.prog 23 [.one (.lst 5 1 (cellI fun _ o => s5 3 100 150 o)), .one (.lst 5 1 f)] (.t (.one (.g (.bool (true))))) := by
  have h := shares_p 1 1 (fun _ o => s5 3 100 150 o) (fun _ o => s5 3 100 150 o) (by decide)
  rw [show eqSh 1 1 (fun _ o => s5 3 100 150 o) (fun _ o => s5 3 100 150 o) = true from decide_eq_true ⟨rfl, fun _ _ => ⟨rfl, rfl, rfl, rfl, rfl⟩⟩] at h
  exact h.eqv ⟨PT.eqv_refl _, ⟨rfl, rfl, hf⟩, trivial⟩ (PV.eqv_refl _)
theorem sa_1 : CallsP Tryz.prog 18 [.one (.lst 4 2 (accF accTwo)), .one (.lst 4 2 (accF accTwo))] (.t (.one (.g (.bool (true))))) := by
  have h := same_p 2 2 accTwo accTwo (by decide) (two_bd 2)
  rw [show eqLL 2 2 accTwo accTwo = true from decide_eq_true ⟨rfl, fun i _ => ⟨decide_eq_true ⟨rfl, fun _ _ => ⟨rfl, rfl, rfl, rfl, rfl⟩⟩, decide_eq_true ⟨rfl, fun _ _ => rfl⟩, rfl, rfl⟩⟩] at h
  exact h

set_option maxRecDepth 100000 in
set_option maxHeartbeats 4000000 in
theorem head_p  : CallsP Tryz.prog 5 [] (.t (.one (.g (.bool (true))))) := by
  refine CallsP_of Tryz.func5 rfl (by rw [Tryz.ntmps5]; simp) ?_
  simp only [Tryz.ntmps5, List.map_cons, List.map_nil, PT.tv, argEnv, Nat.zero_add, Nat.reduceAdd]
  repeat' (first
 | ((with_reducible show AW _ _ _ _); first
 | (with_reducible refine AW_seq_k fun K hK => ?_)
 | (with_reducible refine AW_skip ?_)
 | (with_reducible refine AW_exit ?_)
 | (with_reducible refine AW_ret ?_)
 | (with_reducible refine AW_condI ?_)
 | (with_reducible refine AW_block ?_)
 | ((with_reducible show AW _ (Code.region _ _ _) _ _); first
 | (with_reducible refine AW_regionP 0 [] ?_)
 | (with_reducible refine AW_regionP 1 [] ?_)
 | (with_reducible refine AW_regionP 2 [1] ?_)
 | (with_reducible refine AW_regionP 3 [1, 2, 3] ?_)
 | (with_reducible refine AW_regionP 4 [1, 2, 3, 4, 5] ?_)
 | (with_reducible refine AW_regionP 5 [1, 2, 3, 4, 5, 6, 7] ?_)
 | ((with_reducible refine AW_prune (c := Code.region 6 _ true) [1, 2, 3, 4, 5, 6, 7, 9] ?_); (with_reducible refine AW_regionD ?_ ?_ ?_ ?_); (focus kernel_rfl); (focus kernel_rfl); (focus kernel_rfl))
 | (with_reducible refine AW_regionP 7 [1, 2, 3, 4, 5, 6, 7, 9, 10, 11] ?_)
 | ((with_reducible refine AW_prune (c := Code.region 8 _ true) [1, 2, 3, 4, 5, 6, 7, 9, 10, 11, 12, 13] ?_); (with_reducible refine AW_regionD ?_ ?_ ?_ ?_); (focus kernel_rfl); (focus kernel_rfl); (focus kernel_rfl))
 | (with_reducible refine AW_regionP 9 [1, 2, 3, 4, 5, 6, 7, 9, 10, 11, 12, 13, 14, 15] ?_)
 | (with_reducible refine AW_regionP 10 [1, 2, 3, 4, 5, 6, 7, 9, 10, 11, 12, 13, 14, 15, 16] ?_)
 | ((with_reducible refine AW_frz (c := Code.region 11 _ true) [1] ?nd (AW_prune [1, 2, 3, 4, 5, 6, 7, 9, 10, 11, 12, 13, 14, 15, 16] ?mn)); (case' mn => ((with_reducible refine AW_regionD ?_ ?_ ?_ ?_); (focus kernel_rfl); (focus kernel_rfl); (focus kernel_rfl))))
 | ((with_reducible refine AW_prune (c := Code.region 12 _ true) [1, 2, 3, 4, 5, 6, 7, 9, 10, 11, 12, 13, 14, 15, 18] ?_); (with_reducible refine AW_regionD ?_ ?_ ?_ ?_); (focus kernel_rfl); (focus kernel_rfl); (focus kernel_rfl))
 | (with_reducible refine AW_regionP 13 [1, 2, 3, 4, 5, 6, 7, 9, 10, 11, 12, 13, 14, 15, 18, 19, 20] ?_)
 | (with_reducible refine AW_regionP 14 [1, 2, 4, 6, 10, 12, 14, 19, 21] ?_)
 | (with_reducible refine AW_regionP 15 [14, 21] ?_)))
 | ((first | (with_reducible refine And.intro ?_ ?_) | (with_reducible refine Need.mk ?_)); focus (first | exact True.intro | (with_reducible assumption) | omega | (refine ⟨?_, ?_⟩ <;> omega) | (intro _; first | exact True.intro | (with_reducible assumption) | omega) | (intros; (repeat' (first | exact True.intro | omega | (with_reducible assumption) | (with_reducible refine And.intro ?_ ?_))); done) | (simp (disch := omega) only [Bool.and_eq_true, Bool.or_eq_true, decide_eq_true_eq, bne_iff_ne, ne_eq] at *; first | done | omega | (intros; omega)) | (simp; done) | (simp; omega) | (simp +contextual; done) | (intro h; rw [h]; rfl) | (intros; simp_all; done)))
 | (with_reducible refine retK_n ?_)
 | (with_reducible refine retK_n' ?_)
 | (with_reducible refine retH_n rfl rfl rfl ?_)
 | (with_reducible refine retH_n' rfl rfl rfl ?_)
 | ((with_reducible show condN _ _ _ _ _ _); first
 | ((with_reducible refine condN_t ?_ ?_) <;> (intro hc; (try simp only [Bool.and_eq_true, Bool.or_eq_true, Bool.not_eq_true', Bool.and_eq_false_iff, Bool.or_eq_false_iff, decide_eq_true_eq, decide_eq_false_iff_not, bne_iff_ne, beq_iff_eq, reduceCtorEq, bne_eq_false_iff_eq, beq_eq_false_iff_ne, Bool.not_eq_false', Int.not_le, Int.not_lt, Bool.not_not] at hc); (try (exfalso; first | contradiction | omega)))))
 | ((with_reducible refine And.intro ?_ ?_); focus ((with_reducible show chkR _ _ _ = true); kernel_rfl))
 | ((with_reducible show callN _ _ _ _ _ _ _ _ _ _); first
 | (refine callN_q (k := 26) fnok_26 (two_p) ?_ ?_)
 | (refine callN_q (k := 11) fnok_11 (owner_p 2 accTwo _ _ _ (by omega) (two_bd 2)) ?_ ?_)
 | (refine callN_q (k := 13) fnok_13 (cc_1) ?_ ?_)
 | (refine callN_q (k := 13) fnok_13 (cc_0) ?_ ?_))
 | ((with_reducible show callDN _ _ _ _ _ _ _ _ _ _ _ _ _); first
 | (refine callDN_q (k := 13) fnok_13 (cc_1) ?_ ?_)
 | (refine callDN_q (k := 13) fnok_13 (cc_0) ?_ ?_)
 | (refine callDN_q (k := 21) fnok_21 (mm_1) ?_ ?_)
 | (refine callDN_q (k := 16) fnok_16 (nn_2) ?_ ?_)
 | (refine callDN_q (k := 16) fnok_16 (nn_1 (fun i o hi ho => by (obtain rfl : o = 0 := by omega); rcases i with _ | _ | i <;> first | omega | exact IV.eqv_refl _)) ?_ ?_))
 | ((with_reducible show callGN _ _ _ _ _ _ _ _ _ _); first
 | (refine callGN_q (k := 15) fnok_15 (fun hg => ii_1 (fun i o hi ho => by (obtain rfl : o = 0 := by omega); rcases i with _ | _ | i <;> first | omega | exact IV.eqv_refl _)) ?_ ?_)
 | (refine callGN_q (k := 18) fnok_18 (fun hg => sa_1) ?_ ?_)
 | (refine callGN_q (k := 27) fnok_27 (fun hg => share_p _ _ _) ?_ ?_)
 | (refine callGN_q (k := 23) fnok_23 (fun hg => sh_1 (fun i o hi ho => by (obtain rfl : i = 0 := by omega); rcases o with _ | _ | _ | _ | _ | o <;> first | omega | exact IV.eqv_refl _)) ?_ ?_))
 | ((fail_if_success (with_reducible show AW _ _ _ _)); simp (maxSteps := 2000000) only [go_sem, reduceIte, reduceCtorEq, Nat.reduceAdd, Nat.reduceLT, Nat.reduceLeDiff, Nat.reduceEqDiff, Nat.reduceMul, Nat.reduceSub, Nat.reduceBEq, Tryz.f5, fnok_26, zc_28, fo_28, pl_28_0, pl_28_1, fnok_11, sl_22, ar_22, ty_26, fnok_13, zc_26, fo_26, fnok_21, sl_24, zc_3, of_26_3, ty_24, fnok_16, fnok_15, fnok_18, fnok_27, sl_23, zc_67, fnok_23, cellI, intI, accF0, accF1, accF2, accF3, ow1, ow2, ow3, ow4])
 | ((with_reducible refine hK _ ?_); clear hK K))
  all_goals skip

end Go.Proofs.YtbckibbgajfihaaGreat
