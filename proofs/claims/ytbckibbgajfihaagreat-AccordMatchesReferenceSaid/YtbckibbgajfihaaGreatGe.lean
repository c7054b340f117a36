/- Ge: walks on abstract states. -/
import Derived.Test.YtbckibbgajfihaaGreatGd
set_option linter.unusedVariables false
set_option linter.unusedSimpArgs false
namespace Go.Proofs.YtbckibbgajfihaaGreat
open Go.RowKit Go.Sea
theorem ar_152 : arD Tryz.prog 152 = none := by kernel_rfl
theorem fnok_156 : fnOk Tryz.prog 156 = true := by kernel_rfl
theorem fnok_158 : fnOk Tryz.prog 158 = true := by kernel_rfl
theorem fnok_163 : fnOk Tryz.prog 163 = true := by kernel_rfl
theorem fnok_164 : fnOk Tryz.prog 164 = true := by kernel_rfl
theorem fnok_165 : fnOk Tryz.prog 165 = true := by kernel_rfl
theorem fnok_176 : fnOk Tryz.prog 176 = true := by kernel_rfl
theorem le_152 : lenD Tryz.prog 152 = some true := by kernel_rfl
theorem sl_152 : slD Tryz.prog 152 = some (2, 16, 28) := by kernel_rfl

def orV (a b : Int) : Int := if a = 0 then b else a
def ordV (x y u v : Int) : Int := orV (if x < u then -1 else if u < x then 1 else 0) (if y < v then -1 else if v < y then 1 else 0)
theorem f2_0 (a b : Int) (o : Nat) : f2 a b 0 o = .g (.int .i64 a) := rfl
theorem f2_1 (a b : Int) (o : Nat) : f2 a b 1 o = .g (.int .i64 b) := rfl
theorem sgn_z {z : Int} : sgn z = 0 ↔ z = 0 := by
  unfold sgn; split
  · omega
  · split <;> omega
theorem trn_0 {ax ay bx by' cx cy : Int} : trn ax ay bx by' cx cy = 0 ↔ (bx - ax) * (cy - ay) - (by' - ay) * (cx - ax) = 0 := sgn_z
theorem ordV_lt (x y u v : Int) : (ordV x y u v ≥ 0) ↔ ¬ (x < u ∨ (x = u ∧ y < v)) := by
  unfold ordV orV
  repeat' split
  all_goals omega

set_option maxRecDepth 100000 in
set_option maxHeartbeats 4000000 in
theorem or_p (a b : Int) : CallsP Tryz.prog 156 [.one (.lst 1 2 (f2 a b))] (.t (.one (.g (.int .i64 (orV a b))))) := by
  refine CallsP_of Tryz.func156 rfl (by rw [Tryz.ntmps156]; simp) ?_
  simp only [Tryz.ntmps156, List.map_cons, List.map_nil, PT.tv, argEnv, Nat.zero_add, Nat.reduceAdd]
  repeat' (first
 | ((with_reducible show AW _ _ _ _); first
 | (with_reducible refine AW_seq_k fun K hK => ?_)
 | (with_reducible refine AW_skip ?_)
 | (with_reducible refine AW_exit ?_)
 | (with_reducible refine AW_ret ?_)
 | (with_reducible refine AW_condI ?_)
 | (with_reducible refine AW_block ?_)
 | ((with_reducible show AW _ (Code.region _ _ _) _ _); first
 | (with_reducible refine AW_regionP 0 [0] ?_)
 | (with_reducible refine AW_regionP 1 [0] ?_)
 | (with_reducible refine AW_regionP 2 [0, 3] ?_)
 | (with_reducible refine AW_regionP 3 [3, 6, 7, 8] ?_)
 | (with_reducible refine AW_regionP 4 [3, 6, 7, 8] ?_)
 | (with_reducible refine AW_regionP 5 [3, 5, 6, 7, 8] ?_)
 | (with_reducible refine AW_regionP 6 [5] ?_)
 | (with_reducible refine AW_regionP 7 [3, 6, 7, 8] ?_)
 | (with_reducible refine AW_regionP 8 [3] ?_))
 | ((with_reducible show AW _ (Code.loop _) _ _); first
 | ((with_reducible refine AW_loopQ (c := (Code.seq (Code.region 3 _ _) _)) (ι := Nat) [3, 6, 7] (fun i => [(8, iA .i64 (i : Int))]) (fun i => []) (fun i => i ≤ 2 ∧ (0 < i → a = 0) ∧ (1 < i → b = 0)) (fun i => 2 - i) 0 ?lg3 ?l13 ?l23 ?li3 ?lr3); (case' lg3 => rintro i _); (case' li3 => try (exact ⟨by omega, by omega, by omega⟩)); (case' lr3 => rintro i ⟨hi, hx1, hx2⟩ KR hR3; (rcases (by omega : i = 0 ∨ i = 1 ∨ i = 2) with hz | hz | hz <;> subst hz); simp only [keepE, hupd, hset, lk, if_true, if_false, Nat.reduceEqDiff, reduceIte, List.cons_append, List.nil_append, f2_0, f2_1]))))
 | ((first | (with_reducible refine And.intro ?_ ?_) | (with_reducible refine Need.mk ?_)); focus (first | exact True.intro | (with_reducible assumption) | omega | (refine ⟨?_, ?_⟩ <;> omega) | (intro _; first | exact True.intro | (with_reducible assumption) | omega) | (intros; (repeat' (first | exact True.intro | omega | (with_reducible assumption) | (with_reducible refine And.intro ?_ ?_))); done) | (simp (disch := omega) only [Bool.and_eq_true, Bool.or_eq_true, decide_eq_true_eq, bne_iff_ne, ne_eq] at *; first | done | omega | (intros; omega)) | (simp; done) | (simp; omega) | (simp +contextual; done) | (intro h; rw [h]; rfl) | (intro hq; have hq2 := hq; simp only [Bool.and_eq_true, Bool.or_eq_true, Bool.not_eq_true', Bool.not_not, Bool.not_eq_false', decide_eq_true_eq, decide_eq_false_iff_not] at hq2; (repeat' (first | exact hq | (with_reducible refine And.intro ?_ ?_) | omega | (simp_all; done))); done) | (intros; simp_all; done)))
 | (with_reducible refine retK_n ?_)
 | (with_reducible refine retK_n' ?_)
 | (with_reducible refine retH_n rfl rfl rfl ?_)
 | (with_reducible refine retH_n' rfl rfl rfl ?_)
 | ((with_reducible show condN _ _ _ _ _ _); first
 | ((with_reducible refine condN_t ?_ ?_) <;> (intro hc; (try simp only [Bool.and_eq_true, Bool.or_eq_true, Bool.not_eq_true', Bool.and_eq_false_iff, Bool.or_eq_false_iff, decide_eq_true_eq, decide_eq_false_iff_not, bne_iff_ne, beq_iff_eq, reduceCtorEq, bne_eq_false_iff_eq, beq_eq_false_iff_ne, Bool.not_eq_false', Int.not_le, Int.not_lt, Bool.not_not] at hc); (skip); (try (exfalso; first | contradiction | omega)))))
 | ((with_reducible refine hR3 _ 1 ?_); (try clear hR3 KR); (with_reducible refine Told.mk ?_); simp only [go_sem, reduceIte, reduceCtorEq, Nat.reduceAdd, Nat.reduceLT, Nat.reduceLeDiff, Nat.reduceEqDiff, Nat.reduceMul, Nat.reduceSub, Nat.reduceBEq, f2_0, f2_1]; ((try simp (disch := omega) only [seaWrap, Int.natCast_add, Int.cast_ofNat_Int, and_true, true_and, and_self]); (repeat' (first | exact True.intro | omega | rfl | (with_reducible assumption) | (with_reducible refine And.intro ?_ ?_) | (exact all_succ (by assumption) (by assumption)) )); done))
 | ((with_reducible refine hR3 _ 2 ?_); (try clear hR3 KR); (with_reducible refine Told.mk ?_); simp only [go_sem, reduceIte, reduceCtorEq, Nat.reduceAdd, Nat.reduceLT, Nat.reduceLeDiff, Nat.reduceEqDiff, Nat.reduceMul, Nat.reduceSub, Nat.reduceBEq, f2_0, f2_1]; (first | ((try simp (disch := omega) only [seaWrap, Int.natCast_add, Int.cast_ofNat_Int, and_true, true_and, and_self]); (repeat' (first | exact True.intro | omega | rfl | (with_reducible assumption) | (with_reducible refine And.intro ?_ ?_) | (exact all_succ (by assumption) (by assumption)) )); done) | (refine Stuck.out ?_)))
 | ((with_reducible refine Told.mk ?_); simp only [go_sem, reduceIte, reduceCtorEq, Nat.reduceAdd, Nat.reduceLT, Nat.reduceLeDiff, Nat.reduceEqDiff, Nat.reduceMul, Nat.reduceSub, Nat.reduceBEq, f2_0, f2_1] <;> (first | exact True.intro | (((try simp (disch := omega) only [seaWrap, Int.natCast_add, Int.cast_ofNat_Int, and_true, true_and, and_self]); (repeat' (first | exact True.intro | omega | rfl | (with_reducible assumption) | (with_reducible refine And.intro ?_ ?_) | (exact all_succ (by assumption) (by assumption)) )); done)) | (refine Stuck.out ?_)))
 | ((fail_if_success (with_reducible show AW _ _ _ _)); simp (maxSteps := 2000000) only [go_sem, reduceIte, reduceCtorEq, Nat.reduceAdd, Nat.reduceLT, Nat.reduceLeDiff, Nat.reduceEqDiff, Nat.reduceMul, Nat.reduceSub, Nat.reduceBEq, Tryz.f156, le_24, sl_24, ar_24, ty_3, f2_0, f2_1])
 | ((fail_if_success (with_reducible show AW _ _ _ _)); simp (disch := omega) only [seaWrap, seaDiv, seaMod])
 | ((with_reducible refine hK _ ?_); clear hK K)
 | (with_reducible apply_assumption -exfalso only [*]))
  all_goals (first | (unfold orV; first | (rw [if_pos (by omega)]; omega) | (rw [if_neg (by omega)]) | (split <;> omega)) | skip)

theorem or_q (a b : Int) {F : Nat → Nat → IV} (hF : ∀ i o, i < 2 → o < 1 → (F i o).eqv (f2 a b i o)) : CallsP Tryz.prog 156 [.one (.lst 1 2 F)] (.t (.one (.g (.int .i64 (orV a b))))) :=
  (or_p a b).eqv ⟨⟨rfl, rfl, hF⟩, trivial⟩ (PV.eqv_refl _)

set_option maxRecDepth 100000 in
set_option maxHeartbeats 4000000 in
theorem order_p (x y u v : Int) : CallsP Tryz.prog 141 [.agg [.g (.int .i64 (x)), .g (.int .i64 (y))], .agg [.g (.int .i64 (u)), .g (.int .i64 (v))]] (.t (.one (.g (.int .i64 (ordV x y u v))))) := by
  refine CallsP_of Tryz.func141 rfl (by rw [Tryz.ntmps141]; simp) ?_
  simp only [Tryz.ntmps141, List.map_cons, List.map_nil, PT.tv, argEnv, Nat.zero_add, Nat.reduceAdd]
  repeat' (first
 | ((with_reducible show callDN _ _ _ _ _ _ _ _ _ _ _ _ _); first
 | ((refine callDN_q (k := 156) fnok_156 (or_q (if x < u then -1 else if u < x then 1 else 0) (if y < v then -1 else if v < y then 1 else 0) ?_) ?_ ?_); (focus (intro i o hi ho; rcases i with _ | _ | i <;> first | omega | (rcases o with _ | o <;> first | omega | exact IV.eqv_refl _ | rfl))))
 | (refine callDN_q (k := 157) fnok_157 (gcmp_p x u) ?_ ?_)
 | (refine callDN_q (k := 157) fnok_157 (gcmp_p y v) ?_ ?_))
 | ((with_reducible show AW _ _ _ _); first
 | (with_reducible refine AW_seq_k fun K hK => ?_)
 | (with_reducible refine AW_skip ?_)
 | (with_reducible refine AW_exit ?_)
 | (with_reducible refine AW_ret ?_)
 | (with_reducible refine AW_condI ?_)
 | (with_reducible refine AW_block ?_)
 | ((with_reducible show AW _ (Code.region _ _ _) _ _); first
 | (with_reducible refine AW_regionP 0 [0, 1] ?_)
 | ((with_reducible refine AW_prune (c := Code.region 1 _ true) [2, 3] ?_); (with_reducible refine AW_regionD ?_ ?_ ?_ ?_); (focus kernel_rfl); (focus kernel_rfl); (focus kernel_rfl))))
 | ((first | (with_reducible refine And.intro ?_ ?_) | (with_reducible refine Need.mk ?_)); focus (first | exact True.intro | (with_reducible assumption) | omega | (refine ⟨?_, ?_⟩ <;> omega) | (intro _; first | exact True.intro | (with_reducible assumption) | omega) | (intros; (repeat' (first | exact True.intro | omega | (with_reducible assumption) | (with_reducible refine And.intro ?_ ?_))); done) | (simp (disch := omega) only [Bool.and_eq_true, Bool.or_eq_true, decide_eq_true_eq, bne_iff_ne, ne_eq] at *; first | done | omega | (intros; omega)) | (simp; done) | (simp; omega) | (simp +contextual; done) | (intro h; rw [h]; rfl) | (intro hq; have hq2 := hq; simp only [Bool.and_eq_true, Bool.or_eq_true, Bool.not_eq_true', Bool.not_not, Bool.not_eq_false', decide_eq_true_eq, decide_eq_false_iff_not] at hq2; (repeat' (first | exact hq | (with_reducible refine And.intro ?_ ?_) | omega | (simp_all; done))); done) | (intros; simp_all; done)))
 | (with_reducible refine retK_n ?_)
 | (with_reducible refine retK_n' ?_)
 | (with_reducible refine retH_n rfl rfl rfl ?_)
 | (with_reducible refine retH_n' rfl rfl rfl ?_)
 | ((with_reducible show condN _ _ _ _ _ _); first
 | ((with_reducible refine condN_t ?_ ?_) <;> (intro hc; (try simp only [Bool.and_eq_true, Bool.or_eq_true, Bool.not_eq_true', Bool.and_eq_false_iff, Bool.or_eq_false_iff, decide_eq_true_eq, decide_eq_false_iff_not, bne_iff_ne, beq_iff_eq, reduceCtorEq, bne_eq_false_iff_eq, beq_eq_false_iff_ne, Bool.not_eq_false', Int.not_le, Int.not_lt, Bool.not_not] at hc); (skip); (try (exfalso; first | contradiction | omega)))))
 | ((with_reducible refine And.intro ?_ ?_); focus ((with_reducible show chkR _ _ _ = true); kernel_rfl))
 | ((fail_if_success (with_reducible show AW _ _ _ _)); simp (maxSteps := 2000000) only [go_sem, reduceIte, reduceCtorEq, Nat.reduceAdd, Nat.reduceLT, Nat.reduceLeDiff, Nat.reduceEqDiff, Nat.reduceMul, Nat.reduceSub, Nat.reduceBEq, Tryz.f141, of_28_0, ty_3, fnok_157, of_28_1, sl_24, zc_3, fnok_156])
 | ((with_reducible refine hK _ ?_); clear hK K))
  all_goals (first | rfl | skip)

set_option maxRecDepth 100000 in
set_option maxHeartbeats 4000000 in
theorem pturn_p (ax ay bx by' cx cy : Int) : CallsP Tryz.prog 142 [.agg [.g (.int .i64 (ax)), .g (.int .i64 (ay))], .agg [.g (.int .i64 (bx)), .g (.int .i64 (by'))], .agg [.g (.int .i64 (cx)), .g (.int .i64 (cy))]] (.t (.one (.g (.int .i64 (tvV ax ay bx by' cx cy))))) := by
  refine CallsP_of Tryz.func142 rfl (by rw [Tryz.ntmps142]; simp) ?_
  simp only [Tryz.ntmps142, List.map_cons, List.map_nil, PT.tv, argEnv, Nat.zero_add, Nat.reduceAdd]
  repeat' (first
 | ((with_reducible show AW _ _ _ _); first
 | (with_reducible refine AW_seq_k fun K hK => ?_)
 | (with_reducible refine AW_skip ?_)
 | (with_reducible refine AW_exit ?_)
 | (with_reducible refine AW_ret ?_)
 | (with_reducible refine AW_condI ?_)
 | (with_reducible refine AW_block ?_)
 | ((with_reducible show AW _ (Code.region _ _ _) _ _); first
 | (with_reducible refine AW_regionP 0 [0, 1, 2] ?_)
 | (with_reducible refine AW_regionP 1 [3, 4, 5] ?_)
 | (with_reducible refine AW_regionP 2 [7] ?_)))
 | ((first | (with_reducible refine And.intro ?_ ?_) | (with_reducible refine Need.mk ?_)); focus (first | exact True.intro | (with_reducible assumption) | omega | (refine ⟨?_, ?_⟩ <;> omega) | (intro _; first | exact True.intro | (with_reducible assumption) | omega) | (intros; (repeat' (first | exact True.intro | omega | (with_reducible assumption) | (with_reducible refine And.intro ?_ ?_))); done) | (simp (disch := omega) only [Bool.and_eq_true, Bool.or_eq_true, decide_eq_true_eq, bne_iff_ne, ne_eq] at *; first | done | omega | (intros; omega)) | (simp; done) | (simp; omega) | (simp +contextual; done) | (intro h; rw [h]; rfl) | (intro hq; have hq2 := hq; simp only [Bool.and_eq_true, Bool.or_eq_true, Bool.not_eq_true', Bool.not_not, Bool.not_eq_false', decide_eq_true_eq, decide_eq_false_iff_not] at hq2; (repeat' (first | exact hq | (with_reducible refine And.intro ?_ ?_) | omega | (simp_all; done))); done) | (intros; simp_all; done)))
 | (with_reducible refine retK_n ?_)
 | (with_reducible refine retK_n' ?_)
 | (with_reducible refine retH_n rfl rfl rfl ?_)
 | (with_reducible refine retH_n' rfl rfl rfl ?_)
 | ((with_reducible show condN _ _ _ _ _ _); first
 | ((with_reducible refine condN_t ?_ ?_) <;> (intro hc; (try simp only [Bool.and_eq_true, Bool.or_eq_true, Bool.not_eq_true', Bool.and_eq_false_iff, Bool.or_eq_false_iff, decide_eq_true_eq, decide_eq_false_iff_not, bne_iff_ne, beq_iff_eq, reduceCtorEq, bne_eq_false_iff_eq, beq_eq_false_iff_ne, Bool.not_eq_false', Int.not_le, Int.not_lt, Bool.not_not] at hc); (skip); (try (exfalso; first | contradiction | omega)))))
 | ((with_reducible show callN _ _ _ _ _ _ _ _ _ _); first
 | (refine callN_q (k := 158) fnok_158 (Turn_p _ _ _ _ _ _) ?_ ?_))
 | ((fail_if_success (with_reducible show AW _ _ _ _)); simp (maxSteps := 2000000) only [go_sem, reduceIte, reduceCtorEq, Nat.reduceAdd, Nat.reduceLT, Nat.reduceLeDiff, Nat.reduceEqDiff, Nat.reduceMul, Nat.reduceSub, Nat.reduceBEq, Tryz.f142, ty_28, fnok_158])
 | ((with_reducible refine hK _ ?_); clear hK K))

def ixN (n : Nat) (i : Int) : Nat := ((i + n) % n).toNat

set_option maxRecDepth 100000 in
set_option maxHeartbeats 4000000 in
theorem corner_p (n : Nat) (P : Nat → Nat → Int) (i : Int) (hn : 0 < n ∧ n ≤ 1000) (hi : -1 ≤ i ∧ i ≤ 1000) : CallsP Tryz.prog 143 [.one (.lst 2 n (ptI P)), .one (.g (.int .i64 (i)))] (.t (.agg [.g (.int .i64 (P (ixN n i) 0)), .g (.int .i64 (P (ixN n i) 1))])) := by
  have hm : 0 ≤ (i + (n : Int)) % (n : Int) ∧ (i + (n : Int)) % (n : Int) < (n : Int) := ⟨Int.emod_nonneg _ (by omega), Int.emod_lt_of_pos _ (by omega)⟩
  refine CallsP_of Tryz.func143 rfl (by rw [Tryz.ntmps143]; simp) ?_
  simp only [Tryz.ntmps143, List.map_cons, List.map_nil, PT.tv, argEnv, Nat.zero_add, Nat.reduceAdd]
  repeat' (first
 | ((with_reducible show AW _ _ _ _); first
 | (with_reducible refine AW_seq_k fun K hK => ?_)
 | (with_reducible refine AW_skip ?_)
 | (with_reducible refine AW_exit ?_)
 | (with_reducible refine AW_ret ?_)
 | (with_reducible refine AW_condI ?_)
 | (with_reducible refine AW_block ?_)
 | ((with_reducible show AW _ (Code.region _ _ _) _ _); first
 | (with_reducible refine AW_regionP 0 [0, 1] ?_)
 | (with_reducible refine AW_regionP 1 [0, 1, 4] ?_)))
 | ((first | (with_reducible refine And.intro ?_ ?_) | (with_reducible refine Need.mk ?_)); focus (first | exact True.intro | (with_reducible assumption) | omega | (refine ⟨?_, ?_⟩ <;> omega) | (intro _; first | exact True.intro | (with_reducible assumption) | omega) | (intros; (repeat' (first | exact True.intro | omega | (with_reducible assumption) | (with_reducible refine And.intro ?_ ?_))); done) | (simp (disch := omega) only [Bool.and_eq_true, Bool.or_eq_true, decide_eq_true_eq, bne_iff_ne, ne_eq] at *; first | done | omega | (intros; omega)) | (simp; done) | (simp; omega) | (simp +contextual; done) | (intro h; rw [h]; rfl) | (intro hq; have hq2 := hq; simp only [Bool.and_eq_true, Bool.or_eq_true, Bool.not_eq_true', Bool.not_not, Bool.not_eq_false', decide_eq_true_eq, decide_eq_false_iff_not] at hq2; (repeat' (first | exact hq | (with_reducible refine And.intro ?_ ?_) | omega | (simp_all; done))); done) | (intros; simp_all; done)))
 | (with_reducible refine retK_n ?_)
 | (with_reducible refine retK_n' ?_)
 | (with_reducible refine retH_n rfl rfl rfl ?_)
 | (with_reducible refine retH_n' rfl rfl rfl ?_)
 | ((with_reducible show condN _ _ _ _ _ _); first
 | ((with_reducible refine condN_t ?_ ?_) <;> (intro hc; (try simp only [Bool.and_eq_true, Bool.or_eq_true, Bool.not_eq_true', Bool.and_eq_false_iff, Bool.or_eq_false_iff, decide_eq_true_eq, decide_eq_false_iff_not, bne_iff_ne, beq_iff_eq, reduceCtorEq, bne_eq_false_iff_eq, beq_eq_false_iff_ne, Bool.not_eq_false', Int.not_le, Int.not_lt, Bool.not_not] at hc); (skip); (try (exfalso; first | contradiction | omega)))))
 | ((fail_if_success (with_reducible show AW _ _ _ _)); simp (maxSteps := 2000000) only [go_sem, reduceIte, reduceCtorEq, Nat.reduceAdd, Nat.reduceLT, Nat.reduceLeDiff, Nat.reduceEqDiff, Nat.reduceMul, Nat.reduceSub, Nat.reduceBEq, Tryz.f143, zc_28, le_152, sl_152, ar_152, ty_28, ptI])
 | ((fail_if_success (with_reducible show AW _ _ _ _)); simp (disch := omega) only [seaWrap, seaDiv, seaMod])
 | ((with_reducible refine hK _ ?_); clear hK K))
  all_goals (first | exact ⟨rfl, rfl⟩ | skip)

set_option maxRecDepth 100000 in
set_option maxHeartbeats 4000000 in
theorem rlie_p (px py ax ay bx by' : Int) (hp : ptB px py = true) (ha : ptB ax ay = true) (hb : ptB bx by' = true) : CallsP Tryz.prog 176 [.agg [.g (.int .i64 (px)), .g (.int .i64 (py))], .agg [.g (.int .i64 (ax)), .g (.int .i64 (ay))], .agg [.g (.int .i64 (bx)), .g (.int .i64 (by'))]] (.t (.one (.g (.bool (onB px py ax ay bx by'))))) := by
  have q1 := pt_d.1 hp
  have q2 := pt_d.1 ha
  have q3 := pt_d.1 hb
  have hX := crs_bd ha hb hp
  refine CallsP_of Tryz.func176 rfl (by rw [Tryz.ntmps176]; simp) ?_
  simp only [Tryz.ntmps176, List.map_cons, List.map_nil, PT.tv, argEnv, Nat.zero_add, Nat.reduceAdd]
  repeat' (first
 | ((with_reducible show AW _ _ _ _); first
 | (with_reducible refine AW_seq_k fun K hK => ?_)
 | (with_reducible refine AW_skip ?_)
 | (with_reducible refine AW_exit ?_)
 | (with_reducible refine AW_ret ?_)
 | (with_reducible refine AW_condI ?_)
 | (with_reducible refine AW_block ?_)
 | ((with_reducible show AW _ (Code.region _ _ _) _ _); first
 | (with_reducible refine AW_regionP 0 [0, 1, 2] ?_)
 | ((with_reducible refine AW_prune (c := Code.region 1 _ true) [3, 4, 5] ?_); (with_reducible refine AW_regionD ?_ ?_ ?_ ?_); (focus kernel_rfl); (focus kernel_rfl); (focus kernel_rfl))
 | (with_reducible refine AW_regionP 2 [] ?_)
 | (with_reducible refine AW_regionP 3 [3, 4, 5] ?_)))
 | ((first | (with_reducible refine And.intro ?_ ?_) | (with_reducible refine Need.mk ?_)); focus (first | exact True.intro | (with_reducible assumption) | omega | (refine ⟨?_, ?_⟩ <;> omega) | (intro _; first | exact True.intro | (with_reducible assumption) | omega) | (intros; (repeat' (first | exact True.intro | omega | (with_reducible assumption) | (with_reducible refine And.intro ?_ ?_))); done) | (simp (disch := omega) only [Bool.and_eq_true, Bool.or_eq_true, decide_eq_true_eq, bne_iff_ne, ne_eq] at *; first | done | omega | (intros; omega)) | (simp; done) | (simp; omega) | (simp +contextual; done) | (intro h; rw [h]; rfl) | (intro hq; have hq2 := hq; simp only [Bool.and_eq_true, Bool.or_eq_true, Bool.not_eq_true', Bool.not_not, Bool.not_eq_false', decide_eq_true_eq, decide_eq_false_iff_not] at hq2; (repeat' (first | exact hq | (with_reducible refine And.intro ?_ ?_) | omega | (simp_all; done))); done) | (intros; simp_all; done)))
 | (with_reducible refine retK_n ?_)
 | (with_reducible refine retK_n' ?_)
 | (with_reducible refine retH_n rfl rfl rfl ?_)
 | (with_reducible refine retH_n' rfl rfl rfl ?_)
 | ((with_reducible show condN _ _ _ _ _ _); first
 | ((with_reducible refine condN_t ?_ ?_) <;> (intro hc; (try simp only [Bool.and_eq_true, Bool.or_eq_true, Bool.not_eq_true', Bool.and_eq_false_iff, Bool.or_eq_false_iff, decide_eq_true_eq, decide_eq_false_iff_not, bne_iff_ne, beq_iff_eq, reduceCtorEq, bne_eq_false_iff_eq, beq_eq_false_iff_ne, Bool.not_eq_false', Int.not_le, Int.not_lt, Bool.not_not] at hc); (skip); (try (exfalso; first | contradiction | omega)))))
 | ((with_reducible refine And.intro ?_ ?_); focus ((with_reducible show chkR _ _ _ = true); kernel_rfl))
 | ((with_reducible show callDN _ _ _ _ _ _ _ _ _ _ _ _ _); first
 | (refine callDN_q (k := 165) fnok_165 (rminus_p bx by' ax ay (by omega) (by omega)) ?_ ?_)
 | (refine callDN_q (k := 165) fnok_165 (rminus_p px py ax ay (by omega) (by omega)) ?_ ?_)
 | (refine callDN_q (k := 164) fnok_164 (rcross_p (bx - ax) (by' - ay) (px - ax) (py - ay) hX.1 hX.2) ?_ ?_))
 | ((fail_if_success (with_reducible show AW _ _ _ _)); simp (maxSteps := 2000000) only [go_sem, reduceIte, reduceCtorEq, Nat.reduceAdd, Nat.reduceLT, Nat.reduceLeDiff, Nat.reduceEqDiff, Nat.reduceMul, Nat.reduceSub, Nat.reduceBEq, Tryz.f176, ty_28, fnok_165, fnok_164, of_28_0, ty_3, of_28_1])
 | ((with_reducible refine hK _ ?_); clear hK K))
  all_goals (first | (refine (decide_eq_false fun g => ?_).symm; exact absurd (trn_0.1 g.1) (by assumption)) | (unfold onB; refine Bool.eq_iff_iff.2 ?_; simp only [Bool.and_eq_true, decide_eq_true_eq, trn_0, crs, ge_iff_le]; omega) | skip)

set_option maxRecDepth 100000 in
set_option maxHeartbeats 4000000 in
theorem rcrosses_p (ax ay bx by' cx cy dx dy : Int) (qa : ptB ax ay = true) (qb : ptB bx by' = true) (qc : ptB cx cy = true) (qd : ptB dx dy = true) : CallsP Tryz.prog 166 [.agg [.g (.int .i64 (ax)), .g (.int .i64 (ay))], .agg [.g (.int .i64 (bx)), .g (.int .i64 (by'))], .agg [.g (.int .i64 (cx)), .g (.int .i64 (cy))], .agg [.g (.int .i64 (dx)), .g (.int .i64 (dy))]] (.t (.one (.g (.bool (meetB ax ay bx by' cx cy dx dy))))) := by
  have pa := pt_d.1 qa
  have pb := pt_d.1 qb
  have pc := pt_d.1 qc
  have pd := pt_d.1 qd
  have x0 := crs_bd qa qb qc
  have x1 := crs_bd qa qb qd
  have x2 := crs_bd qc qd qa
  have x3 := crs_bd qc qd qb
  have t1 := trn_bd ax ay bx by' cx cy
  have t2 := trn_bd ax ay bx by' dx dy
  have t3 := trn_bd cx cy dx dy ax ay
  have t4 := trn_bd cx cy dx dy bx by'
  have m1 := mul_bd t1 t2
  have m2 := mul_bd t3 t4
  unfold trn crs at m1 m2
  refine CallsP_of Tryz.func166 rfl (by rw [Tryz.ntmps166]; simp) ?_
  simp only [Tryz.ntmps166, List.map_cons, List.map_nil, PT.tv, argEnv, Nat.zero_add, Nat.reduceAdd]
  repeat' (first
 | ((with_reducible show AW _ _ _ _); first
 | (with_reducible refine AW_seq_k fun K hK => ?_)
 | (with_reducible refine AW_skip ?_)
 | (with_reducible refine AW_exit ?_)
 | (with_reducible refine AW_ret ?_)
 | (with_reducible refine AW_condI ?_)
 | (with_reducible refine AW_block ?_)
 | ((with_reducible show AW _ (Code.region _ _ _) _ _); first
 | (with_reducible refine AW_regionP 0 [0, 1, 2, 3] ?_)
 | (with_reducible refine AW_regionP 1 [4, 5, 6, 7] ?_)
 | (with_reducible refine AW_regionP 2 [] ?_)
 | ((with_reducible refine AW_prune (c := Code.region 3 _ true) [4, 5, 6, 7] ?_); (with_reducible refine AW_regionD ?_ ?_ ?_ ?_); (focus kernel_rfl); (focus kernel_rfl); (focus kernel_rfl))
 | ((with_reducible refine AW_prune (c := Code.region 4 _ true) [4, 5, 6, 7, 9] ?_); (with_reducible refine AW_regionD ?_ ?_ ?_ ?_); (focus kernel_rfl); (focus kernel_rfl); (focus kernel_rfl))
 | (with_reducible refine AW_regionP 5 [9, 10] ?_)))
 | ((first | (with_reducible refine And.intro ?_ ?_) | (with_reducible refine Need.mk ?_)); focus (first | exact True.intro | (with_reducible assumption) | omega | (refine ⟨?_, ?_⟩ <;> omega) | (intro _; first | exact True.intro | (with_reducible assumption) | omega) | (intros; (repeat' (first | exact True.intro | omega | (with_reducible assumption) | (with_reducible refine And.intro ?_ ?_))); done) | (simp (disch := omega) only [Bool.and_eq_true, Bool.or_eq_true, decide_eq_true_eq, bne_iff_ne, ne_eq] at *; first | done | omega | (intros; omega)) | (simp; done) | (simp; omega) | (simp +contextual; done) | (intro h; rw [h]; rfl) | (intro hq; have hq2 := hq; simp only [Bool.and_eq_true, Bool.or_eq_true, Bool.not_eq_true', Bool.not_not, Bool.not_eq_false', decide_eq_true_eq, decide_eq_false_iff_not] at hq2; (repeat' (first | exact hq | (with_reducible refine And.intro ?_ ?_) | omega | (simp_all; done))); done) | (intros; simp_all; done)))
 | (with_reducible refine retK_n ?_)
 | (with_reducible refine retK_n' ?_)
 | (with_reducible refine retH_n rfl rfl rfl ?_)
 | (with_reducible refine retH_n' rfl rfl rfl ?_)
 | ((with_reducible show condN _ _ _ _ _ _); first
 | ((with_reducible refine condN_t ?_ ?_) <;> (intro hc; (try simp only [Bool.and_eq_true, Bool.or_eq_true, Bool.not_eq_true', Bool.and_eq_false_iff, Bool.or_eq_false_iff, decide_eq_true_eq, decide_eq_false_iff_not, bne_iff_ne, beq_iff_eq, reduceCtorEq, bne_eq_false_iff_eq, beq_eq_false_iff_ne, Bool.not_eq_false', Int.not_le, Int.not_lt, Bool.not_not] at hc); (skip); (try (exfalso; first | contradiction | omega)))))
 | ((with_reducible refine And.intro ?_ ?_); focus ((with_reducible show chkR _ _ _ = true); kernel_rfl))
 | ((with_reducible show callN _ _ _ _ _ _ _ _ _ _); first
 | (refine callN_q (k := 176) fnok_176 (rlie_p _ _ _ _ _ _ qa qc qd) ?_ ?_)
 | (refine callN_q (k := 176) fnok_176 (rlie_p _ _ _ _ _ _ qb qc qd) ?_ ?_)
 | (refine callN_q (k := 176) fnok_176 (rlie_p _ _ _ _ _ _ qc qa qb) ?_ ?_)
 | (refine callN_q (k := 176) fnok_176 (rlie_p _ _ _ _ _ _ qd qa qb) ?_ ?_))
 | ((with_reducible show callGN _ _ _ _ _ _ _ _ _ _); first
 | (refine callGN_q (k := 176) fnok_176 (fun hg => rlie_p _ _ _ _ _ _ qa qc qd) ?_ ?_)
 | (refine callGN_q (k := 176) fnok_176 (fun hg => rlie_p _ _ _ _ _ _ qb qc qd) ?_ ?_)
 | (refine callGN_q (k := 176) fnok_176 (fun hg => rlie_p _ _ _ _ _ _ qc qa qb) ?_ ?_)
 | (refine callGN_q (k := 176) fnok_176 (fun hg => rlie_p _ _ _ _ _ _ qd qa qb) ?_ ?_))
 | ((with_reducible show callDN _ _ _ _ _ _ _ _ _ _ _ _ _); first
 | (refine callDN_q (k := 165) fnok_165 (rminus_p bx by' ax ay pb pa) ?_ ?_)
 | (refine callDN_q (k := 165) fnok_165 (rminus_p cx cy ax ay pc pa) ?_ ?_)
 | (refine callDN_q (k := 165) fnok_165 (rminus_p dx dy ax ay pd pa) ?_ ?_)
 | (refine callDN_q (k := 165) fnok_165 (rminus_p dx dy cx cy pd pc) ?_ ?_)
 | (refine callDN_q (k := 165) fnok_165 (rminus_p ax ay cx cy pa pc) ?_ ?_)
 | (refine callDN_q (k := 165) fnok_165 (rminus_p bx by' cx cy pb pc) ?_ ?_)
 | (refine callDN_q (k := 164) fnok_164 (rcross_p (bx - ax) (by' - ay) (cx - ax) (cy - ay) x0.1 x0.2) ?_ ?_)
 | (refine callDN_q (k := 164) fnok_164 (rcross_p (bx - ax) (by' - ay) (dx - ax) (dy - ay) x1.1 x1.2) ?_ ?_)
 | (refine callDN_q (k := 164) fnok_164 (rcross_p (dx - cx) (dy - cy) (ax - cx) (ay - cy) x2.1 x2.2) ?_ ?_)
 | (refine callDN_q (k := 164) fnok_164 (rcross_p (dx - cx) (dy - cy) (bx - cx) (by' - cy) x3.1 x3.2) ?_ ?_)
 | (refine callDN_q (k := 163) fnok_163 (rsign_p _) ?_ ?_))
 | ((fail_if_success (with_reducible show AW _ _ _ _)); simp (maxSteps := 2000000) only [go_sem, reduceIte, reduceCtorEq, Nat.reduceAdd, Nat.reduceLT, Nat.reduceLeDiff, Nat.reduceEqDiff, Nat.reduceMul, Nat.reduceSub, Nat.reduceBEq, Tryz.f166, ty_28, fnok_176, fnok_165, fnok_164, fnok_163])
 | ((fail_if_success (with_reducible show AW _ _ _ _)); simp (disch := omega) only [seaWrap, seaDiv, seaMod])
 | ((with_reducible refine hK _ ?_); clear hK K))
  all_goals (first | (unfold meetB; refine Bool.eq_iff_iff.2 ?_; simp only [Bool.or_eq_true, Bool.and_eq_true, decide_eq_true_eq, true_iff]; exact Or.inr hc) | (obtain ⟨⟨⟨e1, e2⟩, e3⟩, e4⟩ := hc; unfold meetB; rw [e1, e2, e3, e4]; unfold trn crs; refine Bool.eq_iff_iff.2 ?_; simp only [Bool.or_false, Bool.and_eq_true, decide_eq_true_eq]) | skip)

end Go.Proofs.YtbckibbgajfihaaGreat
