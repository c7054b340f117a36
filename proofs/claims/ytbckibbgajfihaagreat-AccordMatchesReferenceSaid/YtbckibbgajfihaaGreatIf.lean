/- If: walks on abstract states. -/
import Derived.Test.YtbckibbgajfihaaGreatIe
import Derived.Test.YtbckibbgajfihaaGreatJ
set_option linter.unusedVariables false
set_option linter.unusedSimpArgs false
namespace Go.Proofs.YtbckibbgajfihaaGreat
open Go.RowKit Go.Sea
theorem fnok_12 : fnOk Tryz.prog 12 = true := by kernel_rfl
theorem fnok_14 : fnOk Tryz.prog 14 = true := by kernel_rfl
theorem fnok_17 : fnOk Tryz.prog 17 = true := by kernel_rfl
theorem fnok_19 : fnOk Tryz.prog 19 = true := by kernel_rfl
theorem fnok_20 : fnOk Tryz.prog 20 = true := by kernel_rfl
theorem fnok_22 : fnOk Tryz.prog 22 = true := by kernel_rfl

def pairA (a b : Acc) : Nat → Acc
  | 0 => a
  | _ + 1 => b
theorem few_2 (a b : Acc) {f : Nat → Nat → IV} (hf : ∀ i o, i < 2 → o < 4 → (f i o).eqv (accF (pairA a b) i o)) : CallsP Tryz.prog 6 [.one (.lst 4 2 f)] (.t (.one (.g (.bool (fewL 2 (pairA a b)))))) :=
  (few_p 2 (pairA a b) (by omega)).eqv ⟨⟨rfl, rfl, hf⟩, trivial⟩ (PV.eqv_refl _)
theorem callGK_u0 {P : Program} {gs : List (Option Nat)} {d : Option Tmp} {op : UnOp} {t : TypeId} {x : Operand} {ty : TypeId} {pos : String} {aft : Array Edge} {g : Option (Nat × Bool)} {os : List Oper} {s : AS} {K : AS → Prop} (h : arun P gs os (s.put d .any) K) :
    callGK P gs false ⟨d, .unOp op t x, ty, pos, aft, g⟩ os s K := by
  refine Or.inr ?_
  exact ⟨fun h => (by cases h), fun _ => h⟩
theorem eqL_rf (n : Nat) (s : Nat → Int) : eqL n n s s = true := decide_eq_true ⟨rfl, fun _ _ => rfl⟩
theorem eqSh_rf (n : Nat) (g : Nat → Nat → Int) : eqSh n n g g = true := decide_eq_true ⟨rfl, fun _ _ => ⟨rfl, rfl, rfl, rfl, rfl⟩⟩
theorem eqLL_rf (n : Nat) (a : Nat → Acc) : eqLL n n a a = true := decide_eq_true ⟨rfl, fun i _ => ⟨eqSh_rf _ _, eqL_rf _ _, rfl, rfl⟩⟩
theorem nextN_le {n : Nat} {a : Nat → Acc} {b : Acc} : nextN n a b ≤ 20 := by
  by_cases h : nextE n a b = 0
  · have h1 : n < 20 := by
      unfold nextE at h
      by_cases g : listB n a = true ∧ valB b = true
      · rw [if_pos g] at h
        by_cases h20 : 20 ≤ n
        · rw [if_pos h20] at h; omega
        · omega
      · rw [if_neg g] at h; omega
    unfold nextN; rw [if_pos h]; omega
  · unfold nextN; rw [if_neg h]; omega
theorem push_ok {n : Nat} {a : Nat → Acc} {b : Acc} (ha : ∀ i, i < n → (a i).m ≤ 9223372036854775807 ∧ (a i).q ≤ 9223372036854775807) (hm : b.m ≤ 9223372036854775807) (hq : b.q ≤ 9223372036854775807) : ∀ i, i < nextN n a b → (pushA n a b i).m ≤ 9223372036854775807 ∧ (pushA n a b i).q ≤ 9223372036854775807 := fun i hi => by
  unfold pushA
  by_cases h : i < n
  · rw [if_pos h]; exact ha i h
  · rw [if_neg h]; exact ⟨hm, hq⟩
theorem conR_le {a b : Acc} : (conR a b).length ≤ 21 := by
  unfold conR; split
  · exact con_len a b
  · exact Nat.zero_le _
theorem mvR_bd {a b : Acc} (hq : a.q ≤ 9223372036854775807) (hr : b.q ≤ 9223372036854775807) : (mvR a b).length ≤ 3600 := by
  unfold mvR; split
  · rename_i h
    have h1 := (cmp_bd h hq hr).1.m
    have h2 := (cmp_bd h hq hr).2.m
    have := mvO_le (A := a) (B := b) h1 b.m
    omega
  · exact Nat.zero_le _

set_option maxRecDepth 100000 in
set_option maxHeartbeats 4000000 in
theorem match_t (n : Nat) (l : Nat → Acc) (a b : Acc) (x y t : Int) (N : NotS) (hn : n ≤ 9223372036854775807) (hl : ∀ i, i < n → (l i).m ≤ 9223372036854775807 ∧ (l i).q ≤ 9223372036854775807) (ha : a.m ≤ 9223372036854775807) (hq : a.q ≤ 9223372036854775807) (hb : b.m ≤ 9223372036854775807) (hr : b.q ≤ 9223372036854775807) (ho : N.Ok) (hf : fewL n l = true) : CallsP Tryz.prog 3 [.one (.lst 4 n (accF l)), accP a, accP b, .agg [.g (.int .i64 (x)), .g (.int .i64 (y))], .one (.g (.int .i64 (t))), .agg [.g (.int .i64 N.oc), .g (.int .i64 N.nu), .g (.int .i64 N.kd), .g (.int .i64 N.fr), .g (.int .i64 N.un), .g (.int .i64 N.ca), .lst 3 N.n (partF N.p)]] (.t (.one (.g (.bool (true))))) := by
  have k1 := @nextN_le n l b
  have k2 := @conR_le a b
  have k3 := mvR_bd (a := a) (b := b) hq hr
  refine CallsP_of Tryz.func3 rfl (by rw [Tryz.ntmps3]; simp) ?_
  simp only [Tryz.ntmps3, List.map_cons, List.map_nil, PT.tv, argEnv, Nat.zero_add, Nat.reduceAdd]
  repeat' (first
 | ((with_reducible show AW _ _ _ _); first
 | (with_reducible refine AW_seq_k fun K hK => ?_)
 | (with_reducible refine AW_skip ?_)
 | (with_reducible refine AW_exit ?_)
 | (with_reducible refine AW_ret ?_)
 | (with_reducible refine AW_condI ?_)
 | (with_reducible refine AW_block ?_)
 | ((with_reducible show AW _ (Code.region _ _ _) _ _); first
 | (with_reducible refine AW_regionP 0 [0, 1, 2, 3, 4, 5] ?_)
 | (with_reducible refine AW_regionP 1 [0, 4, 7, 8, 9, 11] ?_)
 | (with_reducible refine AW_regionP 2 [0, 4, 7, 8, 9, 11, 13] ?_)
 | (with_reducible refine AW_regionP 3 [13] ?_)
 | ((with_reducible refine AW_prune (c := Code.region 4 _ true) [0, 4, 7, 8, 9, 11, 13] ?_); (with_reducible refine AW_regionD ?_ ?_ ?_ ?_); (focus kernel_rfl); (focus kernel_rfl); (focus kernel_rfl))
 | (with_reducible refine AW_regionP 5 [0, 4, 7, 8, 9, 11, 13] ?_)
 | (with_reducible refine AW_regionP 6 [0, 4, 7, 8, 9, 11, 13, 14, 15] ?_)
 | (with_reducible refine AW_regionP 7 [0, 7, 8, 11, 13, 14, 15, 16, 17] ?_)
 | (with_reducible refine AW_regionP 8 [0, 7, 8, 11, 13] ?_)
 | (with_reducible refine AW_regionP 9 [0, 7, 8, 11, 13, 15, 18] ?_)
 | (with_reducible refine AW_regionP 10 [0, 7, 8, 11, 13, 15, 17, 18, 19] ?_)
 | (with_reducible refine AW_regionP 11 [0, 7, 8, 11, 13] ?_)
 | (with_reducible refine AW_regionP 12 [0, 7, 8, 11, 13, 15, 20] ?_)
 | (with_reducible refine AW_regionP 13 [0, 7, 8, 11, 13, 15, 17, 20, 21] ?_)
 | (with_reducible refine AW_regionP 14 [0, 7, 8, 11, 13] ?_)
 | (with_reducible refine AW_regionP 15 [0, 7, 8, 11, 13, 14, 15] ?_)
 | (with_reducible refine AW_regionP 16 [7, 8, 13, 14, 15, 16, 17] ?_)
 | (with_reducible refine AW_regionP 17 [7, 8, 13] ?_)
 | (with_reducible refine AW_regionP 18 [7, 8, 13, 15, 22] ?_)
 | (with_reducible refine AW_regionP 19 [13, 15, 17, 22, 23] ?_)))
 | ((first | (with_reducible refine And.intro ?_ ?_) | (with_reducible refine Need.mk ?_)); focus (first | exact True.intro | (with_reducible assumption) | omega | (refine ⟨?_, ?_⟩ <;> omega) | (intro _; first | exact True.intro | (with_reducible assumption) | omega) | (intros; (repeat' (first | exact True.intro | omega | (with_reducible assumption) | (with_reducible refine And.intro ?_ ?_))); done) | (simp (disch := omega) only [Bool.and_eq_true, Bool.or_eq_true, decide_eq_true_eq, bne_iff_ne, ne_eq] at *; first | done | omega | (intros; omega)) | (simp; done) | (simp; omega) | (simp +contextual; done) | (intro h; rw [h]; rfl) | (intro hq; have hq2 := hq; simp only [Bool.and_eq_true, Bool.or_eq_true, Bool.not_eq_true', Bool.not_not, Bool.not_eq_false', decide_eq_true_eq, decide_eq_false_iff_not] at hq2; (repeat' (first | exact hq | (with_reducible refine And.intro ?_ ?_) | omega | (simp_all; done))); done) | (intros; simp_all; done)))
 | (with_reducible refine retK_n ?_)
 | (with_reducible refine retK_n' ?_)
 | (with_reducible refine retH_n rfl rfl rfl ?_)
 | (with_reducible refine retH_n' rfl rfl rfl ?_)
 | ((with_reducible show condN _ _ _ _ _ _); first
 | ((with_reducible refine condN_t ?_ ?_) <;> (intro hc; (try simp only [Bool.and_eq_true, Bool.or_eq_true, Bool.not_eq_true', Bool.and_eq_false_iff, Bool.or_eq_false_iff, decide_eq_true_eq, decide_eq_false_iff_not, bne_iff_ne, beq_iff_eq, reduceCtorEq, bne_eq_false_iff_eq, beq_eq_false_iff_ne, Bool.not_eq_false', Int.not_le, Int.not_lt, Bool.not_not] at hc); (skip); (try (exfalso; first | contradiction | omega)))))
 | ((with_reducible refine And.intro ?_ ?_); focus ((with_reducible show chkR _ _ _ = true); kernel_rfl))
 | ((with_reducible show callN _ _ _ _ _ _ _ _ _ _); first
 | (refine callN_q (k := 5) fnok_5 (head_p) ?_ ?_)
 | (refine callN_q (k := 6) fnok_6 (few_p n l hn) ?_ ?_)
 | (refine callN_q (k := 6) fnok_6 (few_2 a b (fun i o hi ho => by rcases i with _ | _ | i <;> rcases o with _ | _ | _ | _ | o <;> first | omega | exact IV.eqv_refl _)) ?_ ?_)
 | (refine callN_q (k := 11) fnok_11 (owner_p n l x y t hn hl) ?_ ?_)
 | (refine callN_q (k := 12) fnok_12 (rowner_p n l x y t hn hl) ?_ ?_)
 | (refine callN_q (k := 13) fnok_13 (concerns_p a b ha hq hb hr) ?_ ?_)
 | (refine callN_q (k := 14) fnok_14 (rconcerns_p a b ha hq hb hr) ?_ ?_)
 | (refine callN_q (k := 16) fnok_16 (next_p n l b hb hr hn hl) ?_ ?_)
 | (refine callN_q (k := 17) fnok_17 (rnext_a n l b hb hr hn hl) ?_ ?_)
 | (refine callN_q (k := 19) fnok_19 (Right_p n l N hn hl ho) ?_ ?_)
 | (refine callN_q (k := 20) fnok_20 (rRight_p n l N hn hl ho) ?_ ?_)
 | (refine callN_q (k := 21) fnok_21 (moved_p a b ha hq hb hr) ?_ ?_)
 | (refine callN_q (k := 22) fnok_22 (rmoved_p a b ha hq hb hr) ?_ ?_)
 | (refine callN_zq (k := 6) [4] ?_ ?_))
 | ((with_reducible show callGN _ _ _ _ _ _ _ _ _ _); first
 | (refine callGN_q (k := 6) fnok_6 (fun hg => few_p n l hn) ?_ ?_)
 | (refine callGN_q (k := 6) fnok_6 (fun hg => few_2 a b (fun i o hi ho => by rcases i with _ | _ | i <;> rcases o with _ | _ | _ | _ | o <;> first | omega | exact IV.eqv_refl _)) ?_ ?_)
 | (refine callGN_q (k := 15) fnok_15 (fun hg => ints_p _ _ _ _ (by omega)) ?_ ?_)
 | (refine callGN_q (k := 18) fnok_18 (fun hg => same_p _ _ _ _ (by omega) (push_ok hl hb hr)) ?_ ?_)
 | (refine callGN_q (k := 23) fnok_23 (fun hg => shares_p _ _ _ _ (by omega)) ?_ ?_))
 | ((with_reducible show callDGN _ _ _ _ _ _ _ _ _ _ _ _ _); first
 | (refine callDGN_q (k := 7) fnok_7 (fun hg => valid_p b hb hr) ?_ ?_)
 | (refine callDGN_q (k := 8) fnok_8 (fun hg => rvalid_p b hb hr) ?_ ?_)
 | (refine callDGN_q (k := 9) fnok_9 (fun hg => list_p n l hn hl) ?_ ?_)
 | (refine callDGN_q (k := 10) fnok_10 (fun hg => rlist_p n l hn hl) ?_ ?_))
 | ((fail_if_success (with_reducible show AW _ _ _ _)); simp (maxSteps := 2000000) only [go_sem, reduceIte, reduceCtorEq, Nat.reduceAdd, Nat.reduceLT, Nat.reduceLeDiff, Nat.reduceEqDiff, Nat.reduceMul, Nat.reduceSub, Nat.reduceBEq, Tryz.f3, fnok_5, fnok_6, ty_26, sl_22, zc_26, fnok_7, fnok_8, bo_4, fnok_9, fnok_10, ty_28, fnok_11, fnok_12, fnok_13, fnok_14, fnok_15, fnok_16, fnok_17, fnok_18, ty_31, fnok_19, fnok_20, fnok_21, fnok_22, fnok_23, cellI, intI, accF0, accF1, accF2, accF3, partF0, partF1, partF2, intI, hf, beq_self_eq_true, Bool.and_self, Bool.and_true, Bool.true_and, eqL_rf, eqSh_rf, eqLL_rf])
 | ((with_reducible refine hK _ ?_); clear hK K))
  all_goals skip

set_option maxRecDepth 100000 in
set_option maxHeartbeats 4000000 in
theorem match_f (n : Nat) (l : Nat → Acc) (a b : Acc) (x y t : Int) (N : NotS) (hn : n ≤ 9223372036854775807) (hl : ∀ i, i < n → (l i).m ≤ 9223372036854775807 ∧ (l i).q ≤ 9223372036854775807) (ha : a.m ≤ 9223372036854775807) (hq : a.q ≤ 9223372036854775807) (hb : b.m ≤ 9223372036854775807) (hr : b.q ≤ 9223372036854775807) (ho : N.Ok) (hf : fewL n l = false) : CallsP Tryz.prog 3 [.one (.lst 4 n (accF l)), accP a, accP b, .agg [.g (.int .i64 (x)), .g (.int .i64 (y))], .one (.g (.int .i64 (t))), .agg [.g (.int .i64 N.oc), .g (.int .i64 N.nu), .g (.int .i64 N.kd), .g (.int .i64 N.fr), .g (.int .i64 N.un), .g (.int .i64 N.ca), .lst 3 N.n (partF N.p)]] (.t (.one (.g (.bool (true))))) := by
  refine CallsP_of Tryz.func3 rfl (by rw [Tryz.ntmps3]; simp) ?_
  simp only [Tryz.ntmps3, List.map_cons, List.map_nil, PT.tv, argEnv, Nat.zero_add, Nat.reduceAdd]
  repeat' (first
 | (refine callGK_u0 ?_)
 | ((with_reducible show AW _ _ _ _); first
 | (with_reducible refine AW_seq_k fun K hK => ?_)
 | (with_reducible refine AW_skip ?_)
 | (with_reducible refine AW_exit ?_)
 | (with_reducible refine AW_ret ?_)
 | (with_reducible refine AW_condI ?_)
 | (with_reducible refine AW_block ?_)
 | ((with_reducible show AW _ (Code.region _ _ _) _ _); first
 | (with_reducible refine AW_regionP 0 [0, 1, 2, 3, 4, 5] ?_)
 | (with_reducible refine AW_regionP 1 [0, 4, 7, 8, 9, 11] ?_)
 | (with_reducible refine AW_regionP 2 [0, 4, 7, 8, 9, 11, 13] ?_)
 | (with_reducible refine AW_regionP 3 [13] ?_)
 | ((with_reducible refine AW_prune (c := Code.region 4 _ true) [0, 4, 7, 8, 9, 11, 13] ?_); (with_reducible refine AW_regionD ?_ ?_ ?_ ?_); (focus kernel_rfl); (focus kernel_rfl); (focus kernel_rfl))
 | (with_reducible refine AW_regionP 5 [0, 4, 7, 8, 9, 11, 13] ?_)
 | (with_reducible refine AW_regionP 6 [0, 4, 7, 8, 9, 11, 13, 14, 15] ?_)
 | (with_reducible refine AW_regionP 7 [0, 7, 8, 11, 13, 14, 15, 16, 17] ?_)
 | (with_reducible refine AW_regionP 8 [0, 7, 8, 11, 13] ?_)
 | (with_reducible refine AW_regionP 9 [0, 7, 8, 11, 13, 15, 18] ?_)
 | (with_reducible refine AW_regionP 10 [0, 7, 8, 11, 13, 15, 17, 18, 19] ?_)
 | (with_reducible refine AW_regionP 11 [0, 7, 8, 11, 13] ?_)
 | (with_reducible refine AW_regionP 12 [0, 7, 8, 11, 13, 15, 20] ?_)
 | (with_reducible refine AW_regionP 13 [0, 7, 8, 11, 13, 15, 17, 20, 21] ?_)
 | (with_reducible refine AW_regionP 14 [0, 7, 8, 11, 13] ?_)
 | (with_reducible refine AW_regionP 15 [0, 7, 8, 11, 13, 14, 15] ?_)
 | (with_reducible refine AW_regionP 16 [7, 8, 13, 14, 15, 16, 17] ?_)
 | (with_reducible refine AW_regionP 17 [7, 8, 13] ?_)
 | (with_reducible refine AW_regionP 18 [7, 8, 13, 15, 22] ?_)
 | (with_reducible refine AW_regionP 19 [13, 15, 17, 22, 23] ?_)))
 | ((first | (with_reducible refine And.intro ?_ ?_) | (with_reducible refine Need.mk ?_)); focus (first | exact True.intro | (with_reducible assumption) | omega | (refine ⟨?_, ?_⟩ <;> omega) | (intro _; first | exact True.intro | (with_reducible assumption) | omega) | (intros; (repeat' (first | exact True.intro | omega | (with_reducible assumption) | (with_reducible refine And.intro ?_ ?_))); done) | (simp (disch := omega) only [Bool.and_eq_true, Bool.or_eq_true, decide_eq_true_eq, bne_iff_ne, ne_eq] at *; first | done | omega | (intros; omega)) | (simp; done) | (simp; omega) | (simp +contextual; done) | (intro h; rw [h]; rfl) | (intro hq; have hq2 := hq; simp only [Bool.and_eq_true, Bool.or_eq_true, Bool.not_eq_true', Bool.not_not, Bool.not_eq_false', decide_eq_true_eq, decide_eq_false_iff_not] at hq2; (repeat' (first | exact hq | (with_reducible refine And.intro ?_ ?_) | omega | (simp_all; done))); done) | (intros; simp_all; done)))
 | (with_reducible refine retK_n ?_)
 | (with_reducible refine retK_n' ?_)
 | (with_reducible refine retH_n rfl rfl rfl ?_)
 | (with_reducible refine retH_n' rfl rfl rfl ?_)
 | ((with_reducible show condN _ _ _ _ _ _); first
 | ((with_reducible refine condN_t ?_ ?_) <;> (intro hc; (try simp only [Bool.and_eq_true, Bool.or_eq_true, Bool.not_eq_true', Bool.and_eq_false_iff, Bool.or_eq_false_iff, decide_eq_true_eq, decide_eq_false_iff_not, bne_iff_ne, beq_iff_eq, reduceCtorEq, bne_eq_false_iff_eq, beq_eq_false_iff_ne, Bool.not_eq_false', Int.not_le, Int.not_lt, Bool.not_not] at hc); (skip); (try (exfalso; first | contradiction | omega)))))
 | ((with_reducible refine And.intro ?_ ?_); focus ((with_reducible show chkR _ _ _ = true); kernel_rfl))
 | ((with_reducible show callN _ _ _ _ _ _ _ _ _ _); first
 | (refine callN_q (k := 5) fnok_5 (head_p) ?_ ?_)
 | (refine callN_q (k := 6) fnok_6 (few_p n l hn) ?_ ?_))
 | ((with_reducible show callGN _ _ _ _ _ _ _ _ _ _); first
 | (refine callGN_q (k := 6) fnok_6 (fun hg => few_p n l hn) ?_ ?_)
 | ((refine callGN_sq (k := 6) ?_ ?_) <;> (intro hc; (try simp only [Bool.and_eq_true, Bool.or_eq_true, Bool.not_eq_true', Bool.and_eq_false_iff, Bool.or_eq_false_iff, decide_eq_true_eq, decide_eq_false_iff_not, bne_iff_ne, beq_iff_eq, reduceCtorEq, bne_eq_false_iff_eq, beq_eq_false_iff_ne, Bool.not_eq_false', Int.not_le, Int.not_lt, Bool.not_not] at hc); (try (exfalso; first | contradiction | omega)))))
 | ((fail_if_success (with_reducible show AW _ _ _ _)); simp (maxSteps := 2000000) only [go_sem, reduceIte, reduceCtorEq, Nat.reduceAdd, Nat.reduceLT, Nat.reduceLeDiff, Nat.reduceEqDiff, Nat.reduceMul, Nat.reduceSub, Nat.reduceBEq, Tryz.f3, fnok_5, fnok_6, ty_26, sl_22, zc_26, fnok_7, fnok_8, bo_4, fnok_9, fnok_10, ty_28, fnok_11, fnok_12, fnok_13, fnok_14, fnok_15, fnok_16, fnok_17, fnok_18, ty_31, fnok_19, fnok_20, fnok_21, fnok_22, fnok_23, cellI, intI, accF0, accF1, accF2, accF3, partF0, partF1, partF2, intI, hf])
 | ((with_reducible refine hK _ ?_); clear hK K))
  all_goals skip

theorem match_law (n : Nat) (l : Nat → Acc) (a b : Acc) (x y t : Int) (N : NotS) (hn : n ≤ 9223372036854775807) (hl : ∀ i, i < n → (l i).m ≤ 9223372036854775807 ∧ (l i).q ≤ 9223372036854775807) (ha : a.m ≤ 9223372036854775807) (hq : a.q ≤ 9223372036854775807) (hb : b.m ≤ 9223372036854775807) (hr : b.q ≤ 9223372036854775807) (ho : N.Ok) : CallsP Tryz.prog 3 [.one (.lst 4 n (accF l)), accP a, accP b, .agg [.g (.int .i64 (x)), .g (.int .i64 (y))], .one (.g (.int .i64 (t))), .agg [.g (.int .i64 N.oc), .g (.int .i64 N.nu), .g (.int .i64 N.kd), .g (.int .i64 N.fr), .g (.int .i64 N.un), .g (.int .i64 N.ca), .lst 3 N.n (partF N.p)]] (.t (.one (.g (.bool (true))))) := by
  cases hf : fewL n l with
  | true => exact match_t n l a b x y t N hn hl ha hq hb hr ho hf
  | false => exact match_f n l a b x y t N hn hl ha hq hb hr ho hf

end Go.Proofs.YtbckibbgajfihaaGreat
