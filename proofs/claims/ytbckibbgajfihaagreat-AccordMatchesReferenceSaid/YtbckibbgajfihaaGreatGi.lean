/- Gi: walks on abstract states. -/
import Derived.Test.YtbckibbgajfihaaGreatGh
set_option linter.unusedVariables false
set_option linter.unusedSimpArgs false
namespace Go.Proofs.YtbckibbgajfihaaGreat
open Go.RowKit Go.Sea
theorem fnok_109 : fnOk Tryz.prog 109 = true := by kernel_rfl
theorem fnok_148 : fnOk Tryz.prog 148 = true := by kernel_rfl
theorem fnok_149 : fnOk Tryz.prog 149 = true := by kernel_rfl
theorem fnok_151 : fnOk Tryz.prog 151 = true := by kernel_rfl
theorem fnok_152 : fnOk Tryz.prog 152 = true := by kernel_rfl

def ltI (P : Nat → Nat → Int) (i : Nat) : Prop := P 0 0 < P i 0 ∨ (P 0 0 = P i 0 ∧ P 0 1 < P i 1)
instance (P : Nat → Nat → Int) (i : Nat) : Decidable (ltI P i) := by unfold ltI; infer_instance
def polV (P : Nat → Nat → Int) (i : Nat) : Prop := ptB (P i 0) (P i 1) = true ∧ (0 < i → ltI P i)
instance (P : Nat → Nat → Int) (i : Nat) : Decidable (polV P i) := by unfold polV; infer_instance
def nxx2 (n i : Nat) : Nat := (((i : Int) + 2) % (n : Int)).toNat
def trI (P : Nat → Nat → Int) (n i : Nat) : Int := trn (P i 0) (P i 1) (P (nx n i) 0) (P (nx n i) 1) (P (nxx2 n i) 0) (P (nxx2 n i) 1)
def polB (n : Nat) (P : Nat → Nat → Int) : Bool := decide ((3 ≤ n ∧ n ≤ 24) ∧ (∀ i, i < n → polV P i) ∧ (∀ i, i < n → trI P n i ≠ 0) ∧ simB P n = true ∧ 0 < twF P n n)
theorem nx2_lt {n i : Nat} (h : 0 < n) : nxx2 n i < n := by
  unfold nxx2
  have h1 := Int.emod_nonneg ((i : Int) + 2) (show (n : Int) ≠ 0 by omega)
  have h2 := Int.emod_lt_of_pos ((i : Int) + 2) (show (0 : Int) < n by omega)
  omega
theorem pol_f0 {n : Nat} {P : Nat → Nat → Int} (h : (n : Int) < 3 ∨ (n : Int) > 24) : false = polB n P := (decide_eq_false fun g => by omega).symm
theorem pol_f1 {n i : Nat} {P : Nat → Nat → Int} (h : ptB (P i 0) (P i 1) = false) (hi : (i : Int) < n) : false = polB n P :=
  (decide_eq_false fun g => by have := (g.2.1 i (by omega)).1; rw [h] at this; cases this).symm
theorem pol_f2 {n i : Nat} {P : Nat → Nat → Int} (h : decide (P 0 0 < P i 0 ∨ (P 0 0 = P i 0 ∧ P 0 1 < P i 1)) = false) (h0 : (i : Int) > 0) (hi : (i : Int) < n) : false = polB n P :=
  (decide_eq_false fun g => by have := (g.2.1 i (by omega)).2 (by omega); unfold ltI at this; rw [decide_eq_false_iff_not] at h; exact h this).symm
theorem pol_f4 {n i : Nat} {P : Nat → Nat → Int} (h : ptB (P i 0) (P i 1) = false ∨ ((i : Int) > 0 ∧ ¬ (P 0 0 < P i 0 ∨ P 0 0 = P i 0 ∧ P 0 1 < P i 1))) (hi : (i : Int) < n) : false = polB n P := by
  rcases h with h | h
  · exact pol_f1 h hi
  · exact pol_f2 (decide_eq_false h.2) h.1 hi
theorem pol_f3 {n i : Nat} {P : Nat → Nat → Int} (h : trI P n i = 0) (hi : (i : Int) < n) : false = polB n P := (decide_eq_false fun g => g.2.2.1 i (by omega) h).symm
theorem pol_t {n i j : Nat} {P : Nat → Nat → Int} (hn : 3 ≤ n ∧ n ≤ 24) (hi : (n : Int) ≤ i) (hj : (n : Int) ≤ j) (g : ∀ i', i' < i → polV P i') (g2 : ∀ i', i' < j → trI P n i' ≠ 0) : (simB P n && decide (twF P n n > 0)) = polB n P := by
  refine Bool.eq_iff_iff.2 ?_
  simp only [polB, Bool.and_eq_true, decide_eq_true_eq]
  exact ⟨fun h => ⟨hn, fun k hk => g k (by omega), fun k hk => g2 k (by omega), h.1, h.2⟩, fun h => ⟨h.2.2.2.1, h.2.2.2.2⟩⟩
theorem pol_all {n i : Nat} {P : Nat → Nat → Int} (hi : (n : Int) ≤ i) (g : ∀ i', i' < i → polV P i') : allPt P n := fun k hk => (g k (by omega)).1

set_option maxRecDepth 100000 in
set_option maxHeartbeats 4000000 in
theorem rPol_p (n : Nat) (P : Nat → Nat → Int) (hn : n ≤ 9223372036854775807) : CallsP Tryz.prog 128 [.one (.lst 2 n (ptI P))] (.t (.one (.g (.bool (polB n P))))) := by
  refine CallsP_of Tryz.func128 rfl (by rw [Tryz.ntmps128]; simp) ?_
  simp only [Tryz.ntmps128, List.map_cons, List.map_nil, PT.tv, argEnv, Nat.zero_add, Nat.reduceAdd]
  repeat' (first
 | ((with_reducible show AW _ _ _ _); first
 | (with_reducible refine AW_seq_k fun K hK => ?_)
 | (with_reducible refine AW_skip ?_)
 | (with_reducible refine AW_exit ?_)
 | (with_reducible refine AW_ret ?_)
 | (with_reducible refine AW_condI ?_)
 | (with_reducible refine AW_block ?_)
 | ((with_reducible show AW _ (Code.region _ _ _) _ _); first
 | (with_reducible refine AW_regionP 0 [0] ?_)
 | (with_reducible refine AW_regionP 1 [0] ?_)
 | (with_reducible refine AW_regionP 2 [0, 3] ?_)
 | (with_reducible refine AW_regionP 3 [] ?_)
 | (with_reducible refine AW_regionP 4 [0, 3] ?_)
 | (with_reducible refine AW_regionP 5 [0, 3, 4] ?_)
 | (with_reducible refine AW_regionP 6 [0, 3, 4] ?_)
 | (with_reducible refine AW_regionP 7 [0, 3, 4] ?_)
 | ((with_reducible refine AW_prune (c := Code.region 8 _ true) [0, 3, 4, 5] ?_); (with_reducible refine AW_regionD ?_ ?_ ?_ ?_); (focus kernel_rfl); (focus kernel_rfl); (focus kernel_rfl))
 | (with_reducible refine AW_regionP 9 [] ?_)
 | (with_reducible refine AW_regionP 10 [0, 3] ?_)
 | (with_reducible refine AW_regionP 11 [0, 3, 6] ?_)
 | (with_reducible refine AW_regionP 12 [0, 3, 6] ?_)
 | ((with_reducible refine AW_prune (c := Code.region 13 _ true) [0, 3, 6] ?_); (with_reducible refine AW_regionD ?_ ?_ ?_ ?_); (focus kernel_rfl); (focus kernel_rfl); (focus kernel_rfl))
 | (with_reducible refine AW_regionP 14 [] ?_)
 | (with_reducible refine AW_regionP 15 [0] ?_))
 | ((with_reducible show AW _ (Code.loop _) _ _); first
 | ((with_reducible refine AW_loopQ (c := (Code.seq (Code.seq (Code.region 5 _ _) _) _)) (ι := Nat) [0, 3] (fun i => [(4, iA .i64 (i : Int))]) (fun i => []) (fun i => i ≤ n ∧ (∀ i', i' < i → polV P i')) (fun i => n - i) 0 ?lg5 ?l15 ?l25 ?li5 ?lr5); (case' lg5 => rintro i _); (case' li5 => try (exact ⟨Nat.zero_le _, fun i hi => absurd hi (Nat.not_lt_zero _)⟩)); (case' lr5 => rintro i ⟨hi, hai⟩ KR hR5; skip; simp only [keepE, hupd, hset, lk, if_true, if_false, Nat.reduceEqDiff, reduceIte, List.cons_append, List.nil_append, ptI]))
 | ((with_reducible refine AW_loopQ (c := (Code.seq (Code.seq (Code.region 11 _ _) _) _)) (ι := Nat) [0, 3] (fun j => [(6, iA .i64 (j : Int))]) (fun j => []) (fun j => j ≤ n ∧ (∀ j', j' < j → trI P n j' ≠ 0)) (fun j => n - j) 0 ?lg11 ?l111 ?l211 ?li11 ?lr11); (case' lg11 => rintro j _); (case' li11 => try (exact ⟨Nat.zero_le _, fun i hi => absurd hi (Nat.not_lt_zero _)⟩)); (case' lr11 => rintro j ⟨hj, haj⟩ KR hR11; (have hm : 0 ≤ ((j : Int) + 2) % (n : Int) ∧ ((j : Int) + 2) % (n : Int) < (n : Int) := ⟨Int.emod_nonneg _ (by omega), Int.emod_lt_of_pos _ (by omega)⟩); simp only [keepE, hupd, hset, lk, if_true, if_false, Nat.reduceEqDiff, reduceIte, List.cons_append, List.nil_append, ptI]))))
 | ((first | (with_reducible refine And.intro ?_ ?_) | (with_reducible refine Need.mk ?_)); focus (first | exact True.intro | (with_reducible assumption) | omega | (refine ⟨?_, ?_⟩ <;> omega) | (intro _; first | exact True.intro | (with_reducible assumption) | omega) | (intros; (repeat' (first | exact True.intro | omega | (with_reducible assumption) | (with_reducible refine And.intro ?_ ?_))); done) | (simp (disch := omega) only [Bool.and_eq_true, Bool.or_eq_true, decide_eq_true_eq, bne_iff_ne, ne_eq] at *; first | done | omega | (intros; omega)) | (simp; done) | (simp; omega) | (simp +contextual; done) | (intro h; rw [h]; rfl) | (intro hq; have hq2 := hq; simp only [Bool.and_eq_true, Bool.or_eq_true, Bool.not_eq_true', Bool.not_not, Bool.not_eq_false', decide_eq_true_eq, decide_eq_false_iff_not] at hq2; (repeat' (first | exact hq | (with_reducible refine And.intro ?_ ?_) | omega | (simp_all; done))); done) | (intros; simp_all; done)))
 | (with_reducible refine retK_n ?_)
 | (with_reducible refine retK_n' ?_)
 | (with_reducible refine retH_n rfl rfl rfl ?_)
 | (with_reducible refine retH_n' rfl rfl rfl ?_)
 | ((with_reducible show condN _ _ _ _ _ _); first
 | ((with_reducible refine condN_t ?_ ?_) <;> (intro hc; (try simp only [Bool.and_eq_true, Bool.or_eq_true, Bool.not_eq_true', Bool.and_eq_false_iff, Bool.or_eq_false_iff, decide_eq_true_eq, decide_eq_false_iff_not, bne_iff_ne, beq_iff_eq, reduceCtorEq, bne_eq_false_iff_eq, beq_eq_false_iff_ne, Bool.not_eq_false', Int.not_le, Int.not_lt, Bool.not_not] at hc); (skip); (try (exfalso; first | contradiction | omega)))))
 | ((with_reducible refine And.intro ?_ ?_); focus ((with_reducible show chkR _ _ _ = true); kernel_rfl))
 | ((with_reducible show callN _ _ _ _ _ _ _ _ _ _); first
 | (refine callN_q (k := 109) fnok_109 (rptV_p _ _) ?_ ?_)
 | (refine callN_q (k := 151) fnok_151 (rsimple_p n P (by omega) (pol_all (by omega) hai)) ?_ ?_))
 | ((with_reducible show callDGN _ _ _ _ _ _ _ _ _ _ _ _ _); first
 | (refine callDGN_q (k := 148) fnok_148 (fun hg => rless_p _ _ _ _) ?_ ?_))
 | ((with_reducible show callDN _ _ _ _ _ _ _ _ _ _ _ _ _); first
 | (refine callDN_q (k := 150) fnok_150 (rnext_p n P _ (by omega) (by omega)) ?_ ?_)
 | (refine callDN_q (k := 149) fnok_149 (rturn_p _ _ _ _ _ _ ((pol_all (by omega) hai) _ (by omega)) ((pol_all (by omega) hai) _ (nx_lt (by omega))) ((pol_all (by omega) hai) _ (by first | omega | exact nx2_lt (by omega)))) ?_ ?_))
 | ((with_reducible show callGN _ _ _ _ _ _ _ _ _ _); first
 | (refine callGN_q (k := 152) fnok_152 (fun hg => rtwice_p n P (by omega) (pol_all (by omega) hai)) ?_ ?_))
 | ((with_reducible refine hR5 _ (i + 1) ?_); (try clear hR5 KR))
 | ((with_reducible refine hR11 _ (j + 1) ?_); (try clear hR11 KR))
 | ((with_reducible refine Told.mk ?_); simp only [go_sem, reduceIte, reduceCtorEq, Nat.reduceAdd, Nat.reduceLT, Nat.reduceLeDiff, Nat.reduceEqDiff, Nat.reduceMul, Nat.reduceSub, Nat.reduceBEq, ptI] <;> (first | exact True.intro | (((try simp (disch := omega) only [seaWrap, Int.natCast_add, Int.cast_ofNat_Int, and_true, true_and, and_self]); (repeat' (first | exact True.intro | omega | rfl | (with_reducible assumption) | (with_reducible refine And.intro ?_ ?_) | (exact all_succ (by assumption) (by assumption)) | ((exact all_succ (by assumption) ⟨by simp_all, fun h0 => by unfold ltI; simp_all; omega⟩)))); done)) | (((try simp (disch := omega) only [seaWrap, Int.natCast_add, Int.cast_ofNat_Int, and_true, true_and, and_self]); (repeat' (first | exact True.intro | omega | rfl | (with_reducible assumption) | (with_reducible refine And.intro ?_ ?_) | (exact all_succ (by assumption) (by assumption)) | ((exact all_succ (by assumption) (by assumption))))); done)) | (refine Stuck.out ?_)))
 | ((fail_if_success (with_reducible show AW _ _ _ _)); simp (maxSteps := 2000000) only [go_sem, reduceIte, reduceCtorEq, Nat.reduceAdd, Nat.reduceLT, Nat.reduceLeDiff, Nat.reduceEqDiff, Nat.reduceMul, Nat.reduceSub, Nat.reduceBEq, Tryz.f128, le_53, sl_53, ar_53, ty_28, fnok_109, fnok_148, fnok_150, fnok_149, fnok_151, fnok_152, ptI])
 | ((fail_if_success (with_reducible show AW _ _ _ _)); simp (disch := omega) only [seaWrap, seaDiv, seaMod])
 | ((with_reducible refine hK _ ?_); clear hK K)
 | (with_reducible apply_assumption -exfalso only [*]))
  all_goals (first | exact pol_f0 (by assumption) | exact pol_f4 (by assumption) (by assumption) | exact pol_t (by omega) (by omega) (by omega) hai haj | exact pol_f3 (by assumption) (by omega) | skip)

end Go.Proofs.YtbckibbgajfihaaGreat
