/- I: walks on abstract states. -/
import Derived.Test.YtbckibbgajfihaaGreatH
set_option linter.unusedVariables false
set_option linter.unusedSimpArgs false
namespace Go.Proofs.YtbckibbgajfihaaGreat
open Go.RowKit Go.Sea
theorem fnok_48 : fnOk Tryz.prog 48 = true := by kernel_rfl

theorem lstC_eqv (f : Nat → Nat → IV) (E n : Nat) (i o : Nat) (hi : i < n) (ho : o < E) : (civ ((lstC f E n 0).getD (i * E + o) .any)).eqv (f i o) := by
  rw [List.getD, lstC_get _ _ _ _ _ _ hi ho, Nat.zero_add]
  exact IV.eqv_refl _
def nextE (n : Nat) (a : Nat → Acc) (b : Acc) : Int := if listB n a = true ∧ valB b = true then (if 20 ≤ n then 2 else folV (lastA n a) b) else 1
def pushA (n : Nat) (a : Nat → Acc) (b : Acc) (i : Nat) : Acc := if i < n then a i else b
def nextN (n : Nat) (a : Nat → Acc) (b : Acc) : Nat := if nextE n a b = 0 then n + 1 else 0
theorem lstC_snoc (f : Nat → Nat → IV) (E : Nat) : ∀ n k, lstC f E (n + 1) k = lstC f E n k ++ ipCells (f (k + n)) E 0
  | 0, k => by simp [lstC]
  | n + 1, k => by
    have h := lstC_snoc f E n (k + 1)
    have e1 : lstC f E (n + 1 + 1) k = ipCells (f k) E 0 ++ lstC f E (n + 1) (k + 1) := rfl
    have e2 : lstC f E (n + 1) k = ipCells (f k) E 0 ++ lstC f E n (k + 1) := rfl
    rw [e1, e2, h, List.append_assoc, show k + 1 + n = k + (n + 1) by omega]
theorem lstC_congr {f g : Nat → Nat → IV} {E : Nat} : ∀ n k, (∀ i, i < n → f (k + i) = g (k + i)) → lstC f E n k = lstC g E n k
  | 0, _, _ => rfl
  | n + 1, k, h => by
    have e1 : lstC f E (n + 1) k = ipCells (f k) E 0 ++ lstC f E n (k + 1) := rfl
    have e2 : lstC g E (n + 1) k = ipCells (g k) E 0 ++ lstC g E n (k + 1) := rfl
    have h0 := h 0 (by omega)
    rw [Nat.add_zero] at h0
    rw [e1, e2, h0]
    exact congrArg _ (lstC_congr n (k + 1) fun i hi => by rw [show k + 1 + i = k + (i + 1) by omega]; exact h (i + 1) (by omega))
theorem accF_congr {a a' : Nat → Acc} {i j : Nat} (h : a i = a' j) : accF a i = accF a' j := by
  funext o
  rcases o with _ | _ | _ | o <;> simp only [accF, h]
def rowA (n : Nat) (a : Nat → Acc) : List CV := lstC (accF a) 4 n 0
theorem rowA_len (n : Nat) (a : Nat → Acc) : (rowA n a).length = n * 4 := lstC_len _ _ _ _
theorem push_row (n : Nat) (a : Nat → Acc) (b : Acc) (q : Nat) : List.map (CV.purge q) (lstC (accF a) 4 n 0 ++ [CV.iv (.g (.int .i64 b.ver)), CV.iv (.g (.int .i64 b.frm)), CV.iv (.lst 5 b.m (cellI b.sh)), CV.iv (.lst 1 b.q (intI b.sg))]) = rowA (n + 1) (pushA n a b) := by
  have e : lstC (accF a) 4 n 0 ++ [CV.iv (.g (.int .i64 b.ver)), CV.iv (.g (.int .i64 b.frm)), CV.iv (.lst 5 b.m (cellI b.sh)), CV.iv (.lst 1 b.q (intI b.sg))] = lstC (accF (pushA n a b)) 4 (n + 1) 0 := by
    rw [lstC_snoc, lstC_congr (f := accF a) (g := accF (pushA n a b)) n 0 fun i hi => accF_congr (by simp only [Nat.zero_add, pushA]; rw [if_pos hi])]
    have hb : accF (pushA n a b) (0 + n) = accF (fun _ => b) 0 := accF_congr (by simp only [Nat.zero_add, pushA]; rw [if_neg (Nat.lt_irrefl n)])
    rw [hb]; rfl
  rw [e]; exact purge_iv q (lstC_iv _ _ _ _)
theorem list_all {n : Nat} {a : Nat → Acc} (h : listB n a = true) : n ≤ 20 ∧ ∀ i, i < n → folV (lastA i a) (a i) = 0 := of_decide_eq_true h

set_option maxRecDepth 100000 in
set_option maxHeartbeats 4000000 in
theorem next_p (n : Nat) (a : Nat → Acc) (b : Acc) (hm : b.m ≤ 9223372036854775807) (hq : b.q ≤ 9223372036854775807) (hn : n ≤ 9223372036854775807) (ha : ∀ i, i < n → (a i).m ≤ 9223372036854775807 ∧ (a i).q ≤ 9223372036854775807) : CallsP Tryz.prog 16 [.one (.lst 4 n (accF a)), accP b] (.tup [.one (.lst 4 (nextN n a b) (accF (pushA n a b))), .one (.g (.int .i64 (nextE n a b)))]) := by
  refine CallsP_of Tryz.func16 rfl (by rw [Tryz.ntmps16]; simp) ?_
  simp only [Tryz.ntmps16, List.map_cons, List.map_nil, PT.tv, argEnv, Nat.zero_add, Nat.reduceAdd]
  repeat' (first
 | ((with_reducible show AW _ _ _ _); first
 | (with_reducible refine AW_seq_k fun K hK => ?_)
 | (with_reducible refine AW_skip ?_)
 | (with_reducible refine AW_exit ?_)
 | (with_reducible refine AW_ret ?_)
 | (with_reducible refine AW_condI ?_)
 | (with_reducible refine AW_block ?_)
 | ((with_reducible show AW _ (Code.region _ _ _) _ _); first
 | (with_reducible refine AW_regionP 0 [0, 1] ?_)
 | (with_reducible refine AW_regionP 1 [0, 3] ?_)
 | (with_reducible refine AW_regionP 2 [] ?_)
 | (with_reducible refine AW_regionP 3 [0, 3] ?_)
 | (with_reducible refine AW_regionP 4 [] ?_)
 | ((with_reducible refine AW_prune (c := Code.region 5 _ true) [0, 3] ?_); (with_reducible refine AW_regionD ?_ ?_ ?_ ?_); (focus kernel_rfl); (focus kernel_rfl); (focus kernel_rfl))
 | (with_reducible refine AW_regionP 6 [0, 3, 6] ?_)
 | (with_reducible refine AW_regionP 7 [6] ?_)
 | ((with_reducible refine AW_prune (c := Code.region 8 _ true) [0, 3] ?_); (with_reducible refine AW_regionB 4 ?_ ?_ ?_ ?_ ?_); (focus kernel_rfl); (focus kernel_rfl); (focus kernel_rfl); (focus kernel_rfl))))
 | ((first | (with_reducible refine And.intro ?_ ?_) | (with_reducible refine Need.mk ?_)); focus (first | exact True.intro | (with_reducible assumption) | omega | (refine ⟨?_, ?_⟩ <;> omega) | (intro _; first | exact True.intro | (with_reducible assumption) | omega) | (intros; (repeat' (first | exact True.intro | omega | (with_reducible assumption) | (with_reducible refine And.intro ?_ ?_))); done) | (simp (disch := omega) only [Bool.and_eq_true, Bool.or_eq_true, decide_eq_true_eq, bne_iff_ne, ne_eq] at *; first | done | omega | (intros; omega)) | (simp; done) | (simp; omega) | (simp +contextual; done) | (intro h; rw [h]; rfl) | (intros; simp_all; done)))
 | (with_reducible refine retK_n ?_)
 | (with_reducible refine retK_n' ?_)
 | (with_reducible refine retH_n rfl rfl rfl ?_)
 | (with_reducible refine retH_n' rfl rfl rfl ?_)
 | ((with_reducible show condN _ _ _ _ _ _); first
 | ((with_reducible refine condN_t ?_ ?_) <;> (intro hc; (try simp only [Bool.and_eq_true, Bool.or_eq_true, Bool.not_eq_true', Bool.and_eq_false_iff, Bool.or_eq_false_iff, decide_eq_true_eq, decide_eq_false_iff_not, bne_iff_ne, beq_iff_eq, reduceCtorEq, bne_eq_false_iff_eq, beq_eq_false_iff_ne, Bool.not_eq_false', Int.not_le, Int.not_lt, Bool.not_not] at hc); (try (exfalso; first | contradiction | omega)))))
 | ((with_reducible refine And.intro ?_ ?_); focus ((with_reducible show chkS _ _ _ _ = true); kernel_rfl))
 | ((with_reducible refine And.intro ?_ ?_); focus ((with_reducible show chkR _ _ _ = true); kernel_rfl))
 | ((with_reducible show callN _ _ _ _ _ _ _ _ _ _); first
 | (refine callN_q (k := 9) fnok_9 (list_p n a hn ha) ?_ ?_))
 | ((with_reducible show callGN _ _ _ _ _ _ _ _ _ _); first
 | (refine callGN_q (k := 7) fnok_7 (fun hg => valid_p b hm hq) ?_ ?_))
 | ((with_reducible show callDN _ _ _ _ _ _ _ _ _ _ _ _ _); first
 | (refine callDN_q (k := 36) fnok_36 (last_p _ _ hn) ?_ ?_)
 | (refine callDN_q (k := 35) fnok_35 (follows_p _ b (bd_last ha (Nat.le_refl _) (list_all (by assumption : listB n a = true ∧ valB b = true).1).2) hm hq) ?_ ?_)
 | (refine callDN_nq (k := 48) fnok_48 (clone_n n _ (by omega)) ?_ ?_))
 | ((fail_if_success (with_reducible show AW _ _ _ _)); simp (maxSteps := 2000000) only [go_sem, reduceIte, reduceCtorEq, Nat.reduceAdd, Nat.reduceLT, Nat.reduceLeDiff, Nat.reduceEqDiff, Nat.reduceMul, Nat.reduceSub, Nat.reduceBEq, Tryz.f16, fnok_9, ty_26, fnok_7, le_22, fnok_36, fnok_35, fnok_48, sl_22, zc_26, cellI, intI, accF0, accF1, accF2, accF3, lstC_len, maxLen, push_row, rowA_len])
 | ((with_reducible refine hK _ ?_); clear hK K))
  all_goals first
    | (rcases hc with h | h <;> simp [nextN, nextE, h]; done)
    | (have h20 : 20 ≤ n := (by omega); simp [nextN, nextE, *]; done)
    | (have h20 : ¬ 20 ≤ n := (by omega); simp [nextN, nextE, *]; done)
    | (have h20 : ¬ 20 ≤ n := (by omega); have e : nextE n a b = 0 := (by simp [nextE, *]); have e2 : nextN n a b = n + 1 := (by simp [nextN, e]); rw [e, e2]; exact ⟨fun c hc => lstC_iv _ _ _ _ c hc, ⟨rfl, fun i o hi ho => lstC_eqv _ _ _ i o hi ho⟩, rfl⟩)

end Go.Proofs.YtbckibbgajfihaaGreat
