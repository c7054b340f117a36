/- Gg: walks on abstract states. -/
import Derived.Test.YtbckibbgajfihaaGreatGf
set_option linter.unusedVariables false
set_option linter.unusedSimpArgs false
namespace Go.Proofs.YtbckibbgajfihaaGreat
open Go.RowKit Go.Sea
theorem fnok_160 : fnOk Tryz.prog 160 = true := by kernel_rfl
theorem zc_4 : zeroC Tryz.prog 4 = some [.iv (.g (.bool false))] := by kernel_rfl

def smP (P : Nat → Nat → Int) (n i k : Nat) : Prop := ((k : Int) ≤ (i : Int) + 1 ∨ ((i : Int) = 0 ∧ (k : Int) = (n : Int) - 1)) ∨ mvB (P i 0) (P i 1) (P (nx n i) 0) (P (nx n i) 1) (P k 0) (P k 1) (P (nx n k) 0) (P (nx n k) 1) = false
instance (P : Nat → Nat → Int) (n i k : Nat) : Decidable (smP P n i k) := by unfold smP; infer_instance
def simB (P : Nat → Nat → Int) (n : Nat) : Bool := decide (∀ i, i < n → ∀ k, k < n → smP P n i k)
theorem simB_f {P : Nat → Nat → Int} {n i k : Nat} (h2 : mvB (P i 0) (P i 1) (P (ixN n ((i : Int) + 1)) 0) (P (ixN n ((i : Int) + 1)) 1) (P k 0) (P k 1) (P (ixN n ((k : Int) + 1)) 0) (P (ixN n ((k : Int) + 1)) 1) = true) (h1 : (i : Int) + 1 < k ∧ ((i : Int) ≠ 0 ∨ (k : Int) ≠ (n : Int) - 1)) (hi : (i : Int) < n) (hk : (k : Int) < n) : false = simB P n := by
  refine (decide_eq_false fun g => ?_).symm
  have t := g i (by omega) k (by omega)
  unfold smP nx at t
  rw [h2] at t
  rcases t with t | t
  · omega
  · cases t
theorem simB_t {P : Nat → Nat → Int} {n i : Nat} (h : (n : Int) ≤ i) (g : ∀ i', i' < i → ∀ k', k' < n → smP P n i' k') : true = simB P n := (decide_eq_true fun j hj k hk => g j (by omega) k hk).symm

set_option maxRecDepth 100000 in
set_option maxHeartbeats 4000000 in
theorem simple_p (n : Nat) (P : Nat → Nat → Int) (hn : 0 < n ∧ n ≤ 1000) : CallsP Tryz.prog 144 [.one (.lst 2 n (ptI P))] (.t (.one (.g (.bool (simB P n))))) := by
  have hz : True := trivial
  refine CallsP_of Tryz.func144 rfl (by rw [Tryz.ntmps144]; simp) ?_
  simp only [Tryz.ntmps144, List.map_cons, List.map_nil, PT.tv, argEnv, Nat.zero_add, Nat.reduceAdd]
  repeat' (first
 | ((with_reducible show AW _ _ _ _); first
 | (with_reducible refine AW_seq_k fun K hK => ?_)
 | (with_reducible refine AW_skip ?_)
 | (with_reducible refine AW_exit ?_)
 | (with_reducible refine AW_ret ?_)
 | (with_reducible refine AW_condI ?_)
 | (with_reducible refine AW_block ?_)
 | ((refine AW_rangeFuncH (k := 172) rfl Tryz.func172 rfl fnok_172 (by rw [Tryz.ntmps172]; simp) ?_ ?_ (fun l hlne A B hA hB => ?_)); (focus (simp (maxSteps := 2000000) only [go_sem, reduceIte, reduceCtorEq, Nat.reduceAdd, Nat.reduceLT, Nat.reduceLeDiff, Nat.reduceEqDiff, Nat.reduceMul, Nat.reduceSub, Nat.reduceBEq, Tryz.f144, Tryz.f172, Tryz.f159, zc_4, ty_152, le_152, zc_3, ty_3, fnok_159, zc_172, ty_172, sl_172, ar_172, ty_28, fnok_160, ty_4, sl_152, ar_152, zc_28, fnok_143, fo_172, pl_172_0, pl_172_1, ptI, nx, hz, Int.toNat_one, Int.reduceToNat]; try exact True.intro)); (focus (simp (maxSteps := 2000000) only [go_sem, reduceIte, reduceCtorEq, Nat.reduceAdd, Nat.reduceLT, Nat.reduceLeDiff, Nat.reduceEqDiff, Nat.reduceMul, Nat.reduceSub, Nat.reduceBEq, Tryz.f144, Tryz.f172, Tryz.f159, zc_4, ty_152, le_152, zc_3, ty_3, fnok_159, zc_172, ty_172, sl_172, ar_172, ty_28, fnok_160, ty_4, sl_152, ar_152, zc_28, fnok_143, fo_172, pl_172_0, pl_172_1, ptI, nx, hz, Int.toNat_one, Int.reduceToNat]; try exact True.intro)); simp only [Tryz.ntmps172, List.map_cons, List.map_nil, LV.tv, argEnv, yV, Nat.zero_add, Nat.reduceAdd]; clear hlne)
 | (with_reducible refine AW_eq (by assumption) ?_)
 | ((with_reducible show AW _ (Code.region _ _ _) _ _); first
 | (with_reducible refine AW_regionP 0 [0, 1, 14, 15, 18, 19] ?_)
 | (with_reducible refine AW_regionP (ops := #[⟨some 10, _, _, _, _, _⟩, _, _, _]) 1 [1, 2, 14, 15, 18, 19] ?_)
 | (with_reducible refine AW_regionP (ops := #[⟨some 8, _, _, _, _, _⟩]) 1 [0, 1, 5, 6, 7] ?_)
 | (with_reducible refine AW_regionP (ops := #[⟨some 3, _, _, _, _, _⟩, _]) 1 [1] ?_)
 | (with_reducible refine AW_regionP (ops := #[⟨some 12, _, _, _, _, _⟩, _]) 2 [1, 2, 3, 14, 15, 18, 19] ?_)
 | (with_reducible refine AW_regionP (ops := #[⟨some 9, _, _, _, _, _⟩, _, _, _, _, _]) 2 [0, 1, 5, 6, 7] ?_)
 | (with_reducible refine AW_regionP 3 [1, 2, 3, 14, 15, 18, 19] ?_)
 | ((with_reducible refine AW_prune (c := Code.region 3 _ true) [0, 1, 3, 4, 5, 6, 7] ?_); (with_reducible refine AW_regionY 8 ?_ ?_ ?_ ?_ ?_); (focus kernel_rfl); (focus kernel_rfl); (focus kernel_rfl); (focus kernel_rfl))
 | (with_reducible refine AW_regionP (ops := #[⟨some 5, _, _, _, _, _⟩, _]) 4 [1, 2, 3, 4, 14, 15, 18, 19] ?_)
 | (with_reducible refine AW_regionP (ops := #[⟨some 22, _, _, _, _, _⟩, _]) 4 [0, 1, 5, 6, 7] ?_)
 | (with_reducible refine AW_regionP 5 [1, 2, 3, 4, 5, 14, 15, 18, 19] ?_)
 | (with_reducible refine AW_regionP 6 [1, 2, 3, 4, 5, 14, 15, 18, 19] ?_)
 | (with_reducible refine AW_regionP 7 [1, 2, 3, 4, 5, 6, 14, 15, 18, 19] ?_)
 | (with_reducible refine AW_regionP 8 [1, 2, 3, 4, 5, 6, 7, 14, 15, 18, 19] ?_)
 | (with_reducible refine AW_regionP 9 [1, 2, 3, 4, 5, 7, 14, 15, 18, 19] ?_)
 | (with_reducible refine AW_regionP 10 [1, 2, 3, 4, 5, 8, 14, 15, 18, 19] ?_)
 | (with_reducible refine AW_regionP 11 [2] ?_)
 | (with_reducible refine AW_regionP 12 [2] ?_))
 | ((with_reducible show AW _ (Code.loop _) _ _); first
 | ((have hO := hai; with_reducible refine AW_loopQ (c := (Code.seq (Code.region 1 _ _) _)) (ι := Nat) [0, 1, 5, 6] (fun k => [(7, iA .i64 (k : Int))]) (fun k => []) (fun k => k ≤ n ∧ (∀ k', k' < k → smP P n i k')) (fun k => n - k) 0 ?lg1b ?l11b ?l21b ?li1b ?lr1b); (case' lg1b => rintro k _); (case' li1b => try (exact ⟨Nat.zero_le _, fun i hi => absurd hi (Nat.not_lt_zero _)⟩)); (case' lr1b => rintro k ⟨hk, hak⟩ KR hR1b; skip; simp only [keepE, hupd, hset, lk, if_true, if_false, Nat.reduceEqDiff, reduceIte, List.cons_append, List.nil_append, ptI, nx, hz, Int.toNat_one, Int.reduceToNat]))
 | ((with_reducible refine AW_loopQ (c := (Code.seq (Code.region 1 _ _) _)) (ι := Nat) [0, 1, 5, 6] (fun i => [(7, iA .i64 (i : Int))]) (fun i => []) (fun i => i ≤ n ∧ (∀ i', i' < i → ∀ k', k' < n → smP P n i' k')) (fun i => n - i) 0 ?lg1a ?l11a ?l21a ?li1a ?lr1a); (case' lg1a => rintro i _); (case' li1a => try (exact ⟨Nat.zero_le _, fun i hi => absurd hi (Nat.not_lt_zero _)⟩)); (case' lr1a => rintro i ⟨hi, hai⟩ KR hR1a; skip; simp only [keepE, hupd, hset, lk, if_true, if_false, Nat.reduceEqDiff, reduceIte, List.cons_append, List.nil_append, ptI, nx, hz, Int.toNat_one, Int.reduceToNat]))))
 | ((first | (with_reducible refine And.intro ?_ ?_) | (with_reducible refine Need.mk ?_)); focus (first | exact True.intro | (with_reducible assumption) | omega | (refine ⟨?_, ?_⟩ <;> omega) | (intro _; first | exact True.intro | (with_reducible assumption) | omega) | (intros; (repeat' (first | exact True.intro | omega | (with_reducible assumption) | (with_reducible refine And.intro ?_ ?_))); done) | (simp (disch := omega) only [Bool.and_eq_true, Bool.or_eq_true, decide_eq_true_eq, bne_iff_ne, ne_eq] at *; first | done | omega | (intros; omega)) | (simp; done) | (simp; omega) | (simp +contextual; done) | (intro h; rw [h]; rfl) | (intro hq; have hq2 := hq; simp only [Bool.and_eq_true, Bool.or_eq_true, Bool.not_eq_true', Bool.not_not, Bool.not_eq_false', decide_eq_true_eq, decide_eq_false_iff_not] at hq2; (repeat' (first | exact hq | (with_reducible refine And.intro ?_ ?_) | omega | (simp_all; done))); done) | (intros; simp_all; done)))
 | (with_reducible refine retK_n ?_)
 | (with_reducible refine retK_n' ?_)
 | (with_reducible refine retH_n rfl rfl rfl ?_)
 | (with_reducible refine retH_n' rfl rfl rfl ?_)
 | ((with_reducible show condN _ _ _ _ _ _); first
 | ((with_reducible refine condN_t ?_ ?_) <;> (intro hc; (try simp only [Bool.and_eq_true, Bool.or_eq_true, Bool.not_eq_true', Bool.and_eq_false_iff, Bool.or_eq_false_iff, decide_eq_true_eq, decide_eq_false_iff_not, bne_iff_ne, beq_iff_eq, reduceCtorEq, bne_eq_false_iff_eq, beq_eq_false_iff_ne, Bool.not_eq_false', Int.not_le, Int.not_lt, Bool.not_not] at hc); (skip); (try (exfalso; first | contradiction | omega)))))
 | ((with_reducible show ∀ _ : AS → Prop, _ → _); intro K hK)
 | ((with_reducible refine And.intro ?_ ?_); focus (first | ((with_reducible show chkS _ _ _ _ = true); kernel_rfl) | ((with_reducible show holesB _ _ _ = true); kernel_rfl)))
 | ((with_reducible refine And.intro ?_ ?_); focus ((with_reducible show chkR _ _ _ = true); kernel_rfl))
 | ((with_reducible show callN _ _ _ _ _ _ _ _ _ _); first
 | (refine callN_q (k := 143) fnok_143 (corner_p n P _ hn (by omega)) ?_ ?_)
 | (refine callN_q (k := 160) fnok_160 (Meet_p _ _ _ _ _ _ _ _) ?_ ?_)
 | ((refine callN_i (k := 159) Tryz.func159 rfl fnok_159 (by rw [Tryz.ntmps159]; simp) ?_ ?_ (fun K hK => ?_)); (focus (first | exact True.intro | (with_reducible assumption) | omega | (refine ⟨?_, ?_⟩ <;> omega) | (intro _; first | exact True.intro | (with_reducible assumption) | omega) | (intros; (repeat' (first | exact True.intro | omega | (with_reducible assumption) | (with_reducible refine And.intro ?_ ?_))); done) | (simp (disch := omega) only [Bool.and_eq_true, Bool.or_eq_true, decide_eq_true_eq, bne_iff_ne, ne_eq] at *; first | done | omega | (intros; omega)) | (simp; done) | (simp; omega) | (simp +contextual; done) | (intro h; rw [h]; rfl) | (intro hq; have hq2 := hq; simp only [Bool.and_eq_true, Bool.or_eq_true, Bool.not_eq_true', Bool.not_not, Bool.not_eq_false', decide_eq_true_eq, decide_eq_false_iff_not] at hq2; (repeat' (first | exact hq | (with_reducible refine And.intro ?_ ?_) | omega | (simp_all; done))); done) | (intros; simp_all; done))); (focus (first | (simp [lsF]; done) | assumption | exact ⟨Nat.ne_of_lt (Nat.lt_succ_self _), by assumption⟩)); simp only [Tryz.ntmps159, List.map_cons, List.map_nil, List.nil_append, List.cons_append, List.append_nil, LV.tv, argEnv, Nat.zero_add, Nat.reduceAdd]))
 | ((with_reducible show callDN _ _ _ _ _ _ _ _ _ _ _ _ _); first
 | (refine callDN_q (k := 143) fnok_143 (corner_p n P _ hn (by omega)) ?_ ?_))
 | ((with_reducible refine hR1b _ (k + 1) ?_); (try clear hR1b KR))
 | ((with_reducible refine hR1a _ (i + 1) ?_); (try clear hR1a KR))
 | ((with_reducible refine Told.mk ?_); simp only [go_sem, reduceIte, reduceCtorEq, Nat.reduceAdd, Nat.reduceLT, Nat.reduceLeDiff, Nat.reduceEqDiff, Nat.reduceMul, Nat.reduceSub, Nat.reduceBEq, ptI, nx, hz, Int.toNat_one, Int.reduceToNat] <;> (first | exact True.intro | (((try simp (disch := omega) only [seaWrap, Int.natCast_add, Int.cast_ofNat_Int, and_true, true_and, and_self]); (repeat' (first | exact True.intro | omega | rfl | (with_reducible assumption) | (with_reducible refine And.intro ?_ ?_) | (exact all_succ (by assumption) (by assumption)) | ((exact all_succ (by assumption) (Or.inl (by omega)))) | ((exact all_succ (by assumption) (Or.inr (by assumption)))))); done)) | (((try simp (disch := omega) only [seaWrap, Int.natCast_add, Int.cast_ofNat_Int, and_true, true_and, and_self]); (repeat' (first | exact True.intro | omega | rfl | (with_reducible assumption) | (with_reducible refine And.intro ?_ ?_) | (exact all_succ (by assumption) (by assumption)) | ((exact all_succ (by assumption) (fun k' hk' => hak k' (by omega)))))); done)) | (refine Stuck.out ?_)))
 | ((fail_if_success (with_reducible show AW _ _ _ _)); simp (maxSteps := 2000000) only [go_sem, reduceIte, reduceCtorEq, Nat.reduceAdd, Nat.reduceLT, Nat.reduceLeDiff, Nat.reduceEqDiff, Nat.reduceMul, Nat.reduceSub, Nat.reduceBEq, Tryz.f144, Tryz.f172, Tryz.f159, zc_4, ty_152, le_152, zc_3, ty_3, fnok_159, zc_172, ty_172, sl_172, ar_172, ty_28, fnok_160, ty_4, sl_152, ar_152, zc_28, fnok_143, fo_172, pl_172_0, pl_172_1, ptI, nx, hz, Int.toNat_one, Int.reduceToNat])
 | ((fail_if_success (with_reducible show AW _ _ _ _)); simp (disch := omega) only [seaWrap, seaDiv, seaMod])
 | ((with_reducible show callN _ _ _ _ _ _ (.yld _) _ _ _); (refine callN_y (by simp only [lkL, if_true]; exact rfl) ?_ (by simp) ?_ ?_ (fun K hK => ?_)); (focus (first | exact True.intro | (with_reducible assumption) | omega | (refine ⟨?_, ?_⟩ <;> omega) | (intro _; first | exact True.intro | (with_reducible assumption) | omega) | (intros; (repeat' (first | exact True.intro | omega | (with_reducible assumption) | (with_reducible refine And.intro ?_ ?_))); done) | (simp (disch := omega) only [Bool.and_eq_true, Bool.or_eq_true, decide_eq_true_eq, bne_iff_ne, ne_eq] at *; first | done | omega | (intros; omega)) | (simp; done) | (simp; omega) | (simp +contextual; done) | (intro h; rw [h]; rfl) | (intro hq; have hq2 := hq; simp only [Bool.and_eq_true, Bool.or_eq_true, Bool.not_eq_true', Bool.not_not, Bool.not_eq_false', decide_eq_true_eq, decide_eq_false_iff_not] at hq2; (repeat' (first | exact hq | (with_reducible refine And.intro ?_ ?_) | omega | (simp_all; done))); done) | (intros; simp_all; done))); (focus (simp [ltAll])); (focus (first | (simp [lsF]; done) | assumption | exact ⟨Nat.ne_of_lt (Nat.lt_succ_self _), by assumption⟩)); simp only [zipPut, gf, if_true, Nat.reduceAdd])
 | ((with_reducible refine hK _ ?_); clear hK K)
 | (with_reducible apply_assumption -exfalso only [*]))
  all_goals (first | exact simB_f (by assumption) (by assumption) (by assumption) (by assumption) | exact simB_t (by assumption) (by assumption) | skip)

end Go.Proofs.YtbckibbgajfihaaGreat
