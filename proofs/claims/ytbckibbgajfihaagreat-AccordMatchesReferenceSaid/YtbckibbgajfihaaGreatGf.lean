/- Gf: walks on abstract states. -/
import Derived.Test.YtbckibbgajfihaaGreatGe
set_option linter.unusedVariables false
set_option linter.unusedSimpArgs false
namespace Go.Proofs.YtbckibbgajfihaaGreat
open Go.RowKit Go.Sea
theorem ar_172 : arD Tryz.prog 172 = some (2, 2) := by kernel_rfl
theorem fnok_143 : fnOk Tryz.prog 143 = true := by kernel_rfl
theorem fnok_159 : fnOk Tryz.prog 159 = true := by kernel_rfl
theorem fnok_172 : fnOk Tryz.prog 172 = true := by kernel_rfl
theorem fo_172 : fieldsOk Tryz.prog 172 = true := by kernel_rfl
theorem pl_172_0 : placeF Tryz.prog 172 0 = some (0, 2) := by kernel_rfl
theorem pl_172_1 : placeF Tryz.prog 172 1 = some (2, 2) := by kernel_rfl
theorem sl_172 : slD Tryz.prog 172 = none := by kernel_rfl
theorem ty_152 : tyD Tryz.prog 152 = some (false, 1) := by kernel_rfl
theorem ty_172 : tyD Tryz.prog 172 = some (true, 4) := by kernel_rfl
theorem zc_172 : zeroC Tryz.prog 172 = some [.iv (.g (.int .i64 0)), .iv (.g (.int .i64 0)), .iv (.g (.int .i64 0)), .iv (.g (.int .i64 0))] := by kernel_rfl

def nx (n i : Nat) : Nat := ixN n ((i : Int) + 1)
theorem nx_lt {n i : Nat} (h : 0 < n) : nx n i < n := by
  unfold nx ixN
  have h1 := Int.emod_nonneg ((i : Int) + 1 + n) (show (n : Int) ≠ 0 by omega)
  have h2 := Int.emod_lt_of_pos ((i : Int) + 1 + n) (show (0 : Int) < n by omega)
  omega
def twT (P : Nat → Nat → Int) (n i : Nat) : Int := P i 0 * P (nx n i) 1 - P i 1 * P (nx n i) 0
def twF (P : Nat → Nat → Int) (n : Nat) : Nat → Int
  | 0 => 0
  | i + 1 => twF P n i + twT P n i
theorem twF_s (P : Nat → Nat → Int) (n i : Nat) : twF P n (i + 1) = twF P n i + (P i 0 * P (nx n i) 1 - P i 1 * P (nx n i) 0) := rfl
theorem tw_mul {P : Nat → Nat → Int} {n i j : Nat} (h : allPt P n) (hi : i < n) (hj : j < n) : (-1000000000000 ≤ P i 0 * P j 1 ∧ P i 0 * P j 1 ≤ 1000000000000) ∧ (-1000000000000 ≤ P i 1 * P j 0 ∧ P i 1 * P j 0 ≤ 1000000000000) := by
  have a := pt_d.1 (h i hi)
  have b := pt_d.1 (h j hj)
  have h1 := mul_bd (M := 1000000) a.1 b.2
  have h2 := mul_bd (M := 1000000) a.2 b.1
  omega
theorem twF_bd {P : Nat → Nat → Int} {n : Nat} (h : allPt P n) : ∀ i, i ≤ n → -(2000000000000 * (i : Int)) ≤ twF P n i ∧ twF P n i ≤ 2000000000000 * (i : Int)
  | 0, _ => by simp [twF]
  | i + 1, hi => by
    have := twF_bd h i (by omega)
    have t := tw_mul h (show i < n by omega) (nx_lt (n := n) (i := i) (by omega))
    rw [twF_s]; omega

set_option maxRecDepth 100000 in
set_option maxHeartbeats 4000000 in
theorem twice_p (n : Nat) (P : Nat → Nat → Int) (hn : 0 < n ∧ n ≤ 1000) (hp : allPt P n) : CallsP Tryz.prog 145 [.one (.lst 2 n (ptI P))] (.t (.one (.g (.int .i64 (twF P n n))))) := by
  have hz : True := trivial
  refine CallsP_of Tryz.func145 rfl (by rw [Tryz.ntmps145]; simp) ?_
  simp only [Tryz.ntmps145, List.map_cons, List.map_nil, PT.tv, argEnv, Nat.zero_add, Nat.reduceAdd]
  repeat' (first
 | ((with_reducible show AW _ _ _ _); first
 | (with_reducible refine AW_seq_k fun K hK => ?_)
 | (with_reducible refine AW_skip ?_)
 | (with_reducible refine AW_exit ?_)
 | (with_reducible refine AW_ret ?_)
 | (with_reducible refine AW_condI ?_)
 | (with_reducible refine AW_block ?_)
 | ((refine AW_rangeFuncH (k := 172) rfl Tryz.func172 rfl fnok_172 (by rw [Tryz.ntmps172]; simp) ?_ ?_ (fun l hlne A B hA hB => ?_)); (focus (simp (maxSteps := 2000000) only [go_sem, reduceIte, reduceCtorEq, Nat.reduceAdd, Nat.reduceLT, Nat.reduceLeDiff, Nat.reduceEqDiff, Nat.reduceMul, Nat.reduceSub, Nat.reduceBEq, Tryz.f145, Tryz.f172, Tryz.f159, zc_3, ty_3, fnok_159, zc_172, ty_172, sl_172, ar_172, of_28_0, of_28_1, ty_152, le_152, sl_152, ar_152, ty_28, zc_28, fnok_143, fo_172, pl_172_0, pl_172_1, ptI, twF_s, nx, hz, Int.toNat_one, Int.reduceToNat]; try exact True.intro)); (focus (simp (maxSteps := 2000000) only [go_sem, reduceIte, reduceCtorEq, Nat.reduceAdd, Nat.reduceLT, Nat.reduceLeDiff, Nat.reduceEqDiff, Nat.reduceMul, Nat.reduceSub, Nat.reduceBEq, Tryz.f145, Tryz.f172, Tryz.f159, zc_3, ty_3, fnok_159, zc_172, ty_172, sl_172, ar_172, of_28_0, of_28_1, ty_152, le_152, sl_152, ar_152, ty_28, zc_28, fnok_143, fo_172, pl_172_0, pl_172_1, ptI, twF_s, nx, hz, Int.toNat_one, Int.reduceToNat]; try exact True.intro)); simp only [Tryz.ntmps172, List.map_cons, List.map_nil, LV.tv, argEnv, yV, Nat.zero_add, Nat.reduceAdd]; clear hlne)
 | (with_reducible refine AW_eq (by assumption) ?_)
 | ((with_reducible show AW _ (Code.region _ _ _) _ _); first
 | (with_reducible refine AW_regionP (ops := #[⟨some 2, _, _, _, _, _⟩]) 0 [0, 9] ?_)
 | (with_reducible refine AW_regionP (ops := #[⟨some 5, _, _, _, _, _⟩, _, _]) 0 [0, 1] ?_)
 | (with_reducible refine AW_regionP (ops := #[⟨some 1, _, _, _, _, _⟩, _]) 0 [0] ?_)
 | (with_reducible refine AW_regionP 1 [0, 1, 5, 6, 7, 9] ?_)
 | (with_reducible refine AW_regionP (ops := #[⟨some 6, _, _, _, _, _⟩, _]) 2 [0, 3, 9] ?_)
 | (with_reducible refine AW_regionP (ops := #[⟨some 9, _, _, _, _, _⟩, _, _, _, _, _]) 2 [0, 1, 5, 6, 7] ?_)
 | (with_reducible refine AW_regionP 3 [3, 9] ?_)
 | ((with_reducible refine AW_prune (c := Code.region 3 _ true) [0, 1, 3, 4, 5, 6, 7] ?_); (with_reducible refine AW_regionY 8 ?_ ?_ ?_ ?_ ?_); (focus kernel_rfl); (focus kernel_rfl); (focus kernel_rfl); (focus kernel_rfl))
 | (with_reducible refine AW_regionP (ops := #[⟨some 10, _, _, _, _, _⟩, _, _, _, _, _, _, _, _, _, _, _, _, _, _, _, _, _]) 4 [3, 5, 9] ?_)
 | (with_reducible refine AW_regionP (ops := #[⟨some 22, _, _, _, _, _⟩, _]) 4 [0, 1, 5, 6, 7] ?_)
 | (with_reducible refine AW_regionP 5 [3] ?_))
 | ((with_reducible show AW _ (Code.loop _) _ _); first
 | ((with_reducible refine AW_loopQ (c := (Code.seq (Code.region 1 _ _) _)) (ι := Nat) [0, 1, 5, 6] (fun i => [(7, iA .i64 (i : Int))]) (fun i => [(0, [.iv (.g (.int .i64 (twF P n i)))])]) (fun i => i ≤ n) (fun i => n - i) 0 ?lg1 ?l11 ?l21 ?li1 ?lr1); (case' lg1 => rintro i _); (case' li1 => try exact Nat.zero_le _); (case' lr1 => rintro i hi KR hR1; (have hb := twF_bd hp i (by omega); have ht : i < n → _ := fun hi' => tw_mul hp hi' (nx_lt (n := n) (i := i) (by omega)); simp only [nx] at ht; have ht2 := ht); simp only [keepE, hupd, hset, lk, if_true, if_false, Nat.reduceEqDiff, reduceIte, List.cons_append, List.nil_append, ptI, twF_s, nx, hz, Int.toNat_one, Int.reduceToNat]))))
 | ((first | (with_reducible refine And.intro ?_ ?_) | (with_reducible refine Need.mk ?_)); focus (first | exact True.intro | (with_reducible assumption) | omega | (refine ⟨?_, ?_⟩ <;> omega) | (intro _; first | exact True.intro | (with_reducible assumption) | omega) | (intros; (repeat' (first | exact True.intro | omega | (with_reducible assumption) | (with_reducible refine And.intro ?_ ?_))); done) | (simp (disch := omega) only [Bool.and_eq_true, Bool.or_eq_true, decide_eq_true_eq, bne_iff_ne, ne_eq] at *; first | done | omega | (intros; omega)) | (simp; done) | (simp; omega) | (simp +contextual; done) | (intro h; rw [h]; rfl) | (intro hq; have hq2 := hq; simp only [Bool.and_eq_true, Bool.or_eq_true, Bool.not_eq_true', Bool.not_not, Bool.not_eq_false', decide_eq_true_eq, decide_eq_false_iff_not] at hq2; (repeat' (first | exact hq | (with_reducible refine And.intro ?_ ?_) | omega | (simp_all; done))); done) | (intros; simp_all; done)))
 | (with_reducible refine retK_n ?_)
 | (with_reducible refine retK_n' ?_)
 | (with_reducible refine retH_n rfl rfl rfl ?_)
 | (with_reducible refine retH_n' rfl rfl rfl ?_)
 | ((with_reducible show condN _ _ _ _ _ _); first
 | ((with_reducible refine condN_t ?_ ?_) <;> (intro hc; (try simp only [Bool.and_eq_true, Bool.or_eq_true, Bool.not_eq_true', Bool.and_eq_false_iff, Bool.or_eq_false_iff, decide_eq_true_eq, decide_eq_false_iff_not, bne_iff_ne, beq_iff_eq, reduceCtorEq, bne_eq_false_iff_eq, beq_eq_false_iff_ne, Bool.not_eq_false', Int.not_le, Int.not_lt, Bool.not_not] at hc); (skip); (try (exfalso; first | contradiction | omega)))))
 | ((with_reducible show ∀ _ : AS → Prop, _ → _); intro K hK)
 | ((with_reducible refine And.intro ?_ ?_); focus (first | ((with_reducible show chkS _ _ _ _ = true); kernel_rfl) | ((with_reducible show holesB _ _ _ = true); kernel_rfl)))
 | ((with_reducible refine And.intro ?_ ?_); focus ((with_reducible show chkR _ _ _ = true); kernel_rfl))
 | ((with_reducible show callN _ _ _ _ _ _ _ _ _ _); first
 | (refine callN_q (k := 143) fnok_143 (corner_p n P _ hn (by omega)) ?_ ?_)
 | ((refine callN_i (k := 159) Tryz.func159 rfl fnok_159 (by rw [Tryz.ntmps159]; simp) ?_ ?_ (fun K hK => ?_)); (focus (first | exact True.intro | (with_reducible assumption) | omega | (refine ⟨?_, ?_⟩ <;> omega) | (intro _; first | exact True.intro | (with_reducible assumption) | omega) | (intros; (repeat' (first | exact True.intro | omega | (with_reducible assumption) | (with_reducible refine And.intro ?_ ?_))); done) | (simp (disch := omega) only [Bool.and_eq_true, Bool.or_eq_true, decide_eq_true_eq, bne_iff_ne, ne_eq] at *; first | done | omega | (intros; omega)) | (simp; done) | (simp; omega) | (simp +contextual; done) | (intro h; rw [h]; rfl) | (intro hq; have hq2 := hq; simp only [Bool.and_eq_true, Bool.or_eq_true, Bool.not_eq_true', Bool.not_not, Bool.not_eq_false', decide_eq_true_eq, decide_eq_false_iff_not] at hq2; (repeat' (first | exact hq | (with_reducible refine And.intro ?_ ?_) | omega | (simp_all; done))); done) | (intros; simp_all; done))); (focus (first | (simp [lsF]; done) | assumption | exact ⟨Nat.ne_of_lt (Nat.lt_succ_self _), by assumption⟩)); simp only [Tryz.ntmps159, List.map_cons, List.map_nil, List.nil_append, List.cons_append, List.append_nil, LV.tv, argEnv, Nat.zero_add, Nat.reduceAdd]))
 | ((with_reducible show callDN _ _ _ _ _ _ _ _ _ _ _ _ _); first
 | (refine callDN_q (k := 143) fnok_143 (corner_p n P _ hn (by omega)) ?_ ?_))
 | ((with_reducible refine hR1 _ (i + 1) ?_); (try clear hR1 KR))
 | ((with_reducible refine Told.mk ?_); simp only [go_sem, reduceIte, reduceCtorEq, Nat.reduceAdd, Nat.reduceLT, Nat.reduceLeDiff, Nat.reduceEqDiff, Nat.reduceMul, Nat.reduceSub, Nat.reduceBEq, ptI, twF_s, nx, hz, Int.toNat_one, Int.reduceToNat] <;> (first | exact True.intro | (((try simp (disch := omega) only [seaWrap, Int.natCast_add, Int.cast_ofNat_Int, and_true, true_and, and_self]); (repeat' (first | exact True.intro | omega | rfl | (with_reducible assumption) | (with_reducible refine And.intro ?_ ?_) | (exact all_succ (by assumption) (by assumption)) | ((simp (disch := omega) only [seaWrap]; omega)))); done)) | (refine Stuck.out ?_)))
 | ((fail_if_success (with_reducible show AW _ _ _ _)); simp (maxSteps := 2000000) only [go_sem, reduceIte, reduceCtorEq, Nat.reduceAdd, Nat.reduceLT, Nat.reduceLeDiff, Nat.reduceEqDiff, Nat.reduceMul, Nat.reduceSub, Nat.reduceBEq, Tryz.f145, Tryz.f172, Tryz.f159, zc_3, ty_3, fnok_159, zc_172, ty_172, sl_172, ar_172, of_28_0, of_28_1, ty_152, le_152, sl_152, ar_152, ty_28, zc_28, fnok_143, fo_172, pl_172_0, pl_172_1, ptI, twF_s, nx, hz, Int.toNat_one, Int.reduceToNat])
 | ((fail_if_success (with_reducible show AW _ _ _ _)); simp (disch := omega) only [seaWrap, seaDiv, seaMod])
 | ((with_reducible show callN _ _ _ _ _ _ (.yld _) _ _ _); (refine callN_y (by simp only [lkL, if_true]; exact rfl) ?_ (by simp) ?_ ?_ (fun K hK => ?_)); (focus (first | exact True.intro | (with_reducible assumption) | omega | (refine ⟨?_, ?_⟩ <;> omega) | (intro _; first | exact True.intro | (with_reducible assumption) | omega) | (intros; (repeat' (first | exact True.intro | omega | (with_reducible assumption) | (with_reducible refine And.intro ?_ ?_))); done) | (simp (disch := omega) only [Bool.and_eq_true, Bool.or_eq_true, decide_eq_true_eq, bne_iff_ne, ne_eq] at *; first | done | omega | (intros; omega)) | (simp; done) | (simp; omega) | (simp +contextual; done) | (intro h; rw [h]; rfl) | (intro hq; have hq2 := hq; simp only [Bool.and_eq_true, Bool.or_eq_true, Bool.not_eq_true', Bool.not_not, Bool.not_eq_false', decide_eq_true_eq, decide_eq_false_iff_not] at hq2; (repeat' (first | exact hq | (with_reducible refine And.intro ?_ ?_) | omega | (simp_all; done))); done) | (intros; simp_all; done))); (focus (simp [ltAll])); (focus (first | (simp [lsF]; done) | assumption | exact ⟨Nat.ne_of_lt (Nat.lt_succ_self _), by assumption⟩)); simp only [zipPut, gf, if_true, Nat.reduceAdd])
 | ((with_reducible refine hK _ ?_); clear hK K)
 | (with_reducible apply_assumption -exfalso only [*]))
  all_goals (first | ((obtain rfl : i = n := by omega); rfl) | skip)

end Go.Proofs.YtbckibbgajfihaaGreat
