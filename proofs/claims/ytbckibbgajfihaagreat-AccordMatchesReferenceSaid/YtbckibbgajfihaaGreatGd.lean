/- Gd: walks on abstract states. -/
import Derived.Test.YtbckibbgajfihaaGreatPi
set_option linter.unusedVariables false
set_option linter.unusedSimpArgs false
namespace Go.Proofs.YtbckibbgajfihaaGreat
open Go.RowKit Go.Sea
theorem ar_55 : arD Tryz.prog 55 = none := by kernel_rfl
theorem fnok_146 : fnOk Tryz.prog 146 = true := by kernel_rfl
theorem fnok_147 : fnOk Tryz.prog 147 = true := by kernel_rfl
theorem fnok_153 : fnOk Tryz.prog 153 = true := by kernel_rfl
theorem fnok_154 : fnOk Tryz.prog 154 = true := by kernel_rfl
theorem fnok_161 : fnOk Tryz.prog 161 = true := by kernel_rfl
theorem fnok_162 : fnOk Tryz.prog 162 = true := by kernel_rfl
theorem fnok_167 : fnOk Tryz.prog 167 = true := by kernel_rfl
theorem le_55 : lenD Tryz.prog 55 = some true := by kernel_rfl
theorem of_151_0 : offOf Tryz.prog 151 0 = some 0 := by kernel_rfl
theorem of_151_1 : offOf Tryz.prog 151 1 = some 2 := by kernel_rfl
theorem of_151_2 : offOf Tryz.prog 151 2 = some 4 := by kernel_rfl
theorem of_151_3 : offOf Tryz.prog 151 3 = some 5 := by kernel_rfl
theorem sl_55 : slD Tryz.prog 55 = some (6, 48, 151) := by kernel_rfl
theorem ty_151 : tyD Tryz.prog 151 = some (true, 6) := by kernel_rfl
theorem zc_151 : zeroC Tryz.prog 151 = some [.iv (.g (.int .i64 0)), .iv (.g (.int .i64 0)), .iv (.g (.int .i64 0)), .iv (.g (.int .i64 0)), .iv (.g (.int .i64 0)), .iv (.g (.int .i64 0))] := by kernel_rfl

def secB (a b c d k r : Int) : Bool := decide (dirB a b = true ∧ dirB c d = true ∧ (1 ≤ k ∧ k ≤ 3) ∧ (1 ≤ r ∧ r ≤ 3000000))
def secI (S : Nat → Nat → Int) (i : Nat) : Bool := secB (S i 0) (S i 1) (S i 2) (S i 3) (S i 4) (S i 5)
def hasI (S : Nat → Nat → Int) (i j : Nat) : Bool := hasP (S i 0) (S i 1) (S i 2) (S i 3) (S j 0) (S j 1)
def secsO (S : Nat → Nat → Int) (i : Nat) : Prop := secI S i = true ∧ ∀ j, j < i → hasI S i j = false ∧ hasI S j i = false
instance (S : Nat → Nat → Int) (i : Nat) : Decidable (secsO S i) := by unfold secsO; infer_instance
def secsB (n : Nat) (S : Nat → Nat → Int) : Bool := decide (n ≤ 12 ∧ ∀ i, i < n → secsO S i)
theorem secs_f1 {n : Nat} {S : Nat → Nat → Int} {i : Nat} (hi : (i : Int) < n) (h : secB (S i 0) (S i 1) (S i 2) (S i 3) (S i 4) (S i 5) = false) : false = secsB n S :=
  (decide_eq_false fun g => by have := (g.2 i (by omega)).1; unfold secI at this; rw [h] at this; cases this).symm
theorem secs_f2 {n : Nat} {S : Nat → Nat → Int} {i j : Nat} (hi : (i : Int) < n) (hj : (j : Int) < i) (h : hasP (S i 0) (S i 1) (S i 2) (S i 3) (S j 0) (S j 1) = true) : false = secsB n S :=
  (decide_eq_false fun g => by have := ((g.2 i (by omega)).2 j (by omega)).1; unfold hasI at this; rw [h] at this; cases this).symm
theorem secs_f3 {n : Nat} {S : Nat → Nat → Int} {i j : Nat} (hi : (i : Int) < n) (hj : (j : Int) < i) (h : hasP (S j 0) (S j 1) (S j 2) (S j 3) (S i 0) (S i 1) = true) : false = secsB n S :=
  (decide_eq_false fun g => by have := ((g.2 i (by omega)).2 j (by omega)).2; unfold hasI at this; rw [h] at this; cases this).symm
theorem secs_f4 {n : Nat} {S : Nat → Nat → Int} (h : (n : Int) > 12) : false = secsB n S := (decide_eq_false fun g => by omega).symm
theorem secs_t {n i : Nat} {S : Nat → Nat → Int} (hi : i ≤ n) (h : (n : Int) ≤ i) (g : ∀ i', i' < i → secsO S i') : decide ((n : Int) ≤ 12) = secsB n S := by
  unfold secsB; refine decide_eq_decide.2 ⟨fun k => ⟨by omega, fun j hj => g j (by omega)⟩, fun k => by omega⟩
theorem secs_t2 {n i : Nat} {S : Nat → Nat → Int} (hn : (n : Int) ≤ 12) (hi : i ≤ n) (h : (n : Int) ≤ i) (g : ∀ i', i' < i → secsO S i') : true = secsB n S := by
  rw [← secs_t hi h g, decide_eq_true hn]
theorem sec_1 {a b c d k r : Int} (h : secB a b c d k r = true) : dirB a b = true := (of_decide_eq_true h).1
theorem sec_2 {a b c d k r : Int} (h : secB a b c d k r = true) : dirB c d = true := (of_decide_eq_true h).2.1

set_option maxRecDepth 100000 in
set_option maxHeartbeats 4000000 in
theorem ghas_p (x y u v p q z w : Int) (d1 : dirB x y = true) (d2 : dirB u v = true) (d3 : dirB z w = true) : CallsP Tryz.prog 147 [.agg [.g (.int .i64 (x)), .g (.int .i64 (y)), .g (.int .i64 (u)), .g (.int .i64 (v)), .g (.int .i64 (p)), .g (.int .i64 (q))], .agg [.g (.int .i64 (z)), .g (.int .i64 (w))]] (.t (.one (.g (.bool (hasP x y u v z w))))) := by
  simp only [dirB, decide_eq_true_eq] at d1 d2 d3
  have k1 := dir_bd (M := 1000000) d1.1 d2.1
  have k2 := dir_bd (M := 1000000) d1.1 d3.1
  have k3 := dir_bd (M := 1000000) d2.1 d3.1
  have v1 := cmpW_v x y u v
  refine CallsP_of Tryz.func147 rfl (by rw [Tryz.ntmps147]; simp) ?_
  simp only [Tryz.ntmps147, List.map_cons, List.map_nil, PT.tv, argEnv, Nat.zero_add, Nat.reduceAdd]
  repeat' (first
 | ((with_reducible show AW _ _ _ _); first
 | (with_reducible refine AW_seq_k fun K hK => ?_)
 | (with_reducible refine AW_skip ?_)
 | (with_reducible refine AW_exit ?_)
 | (with_reducible refine AW_ret ?_)
 | (with_reducible refine AW_condI ?_)
 | (with_reducible refine AW_block ?_)
 | ((with_reducible show AW _ (Code.region _ _ _) _ _); first
 | (with_reducible refine AW_regionP 0 [0, 1] ?_)
 | ((with_reducible refine AW_prune (c := Code.region 1 _ true) [2, 3] ?_); (with_reducible refine AW_regionD ?_ ?_ ?_ ?_); (focus kernel_rfl); (focus kernel_rfl); (focus kernel_rfl))
 | ((with_reducible refine AW_prune (c := Code.region 2 _ true) [3, 5, 6] ?_); (with_reducible refine AW_regionD ?_ ?_ ?_ ?_); (focus kernel_rfl); (focus kernel_rfl); (focus kernel_rfl))
 | (with_reducible refine AW_regionP 3 [5, 6, 7, 8] ?_)
 | (with_reducible refine AW_regionP 4 [7, 8, 23] ?_)
 | (with_reducible refine AW_regionP 5 [7, 8] ?_)
 | (with_reducible refine AW_regionP 6 [7, 8, 23] ?_)
 | (with_reducible refine AW_regionP 7 [7, 8] ?_)
 | (with_reducible refine AW_regionP 8 [] ?_)))
 | ((first | (with_reducible refine And.intro ?_ ?_) | (with_reducible refine Need.mk ?_)); focus (first | exact True.intro | (with_reducible assumption) | omega | (refine ⟨?_, ?_⟩ <;> omega) | (intro _; first | exact True.intro | (with_reducible assumption) | omega) | (intros; (repeat' (first | exact True.intro | omega | (with_reducible assumption) | (with_reducible refine And.intro ?_ ?_))); done) | (simp (disch := omega) only [Bool.and_eq_true, Bool.or_eq_true, decide_eq_true_eq, bne_iff_ne, ne_eq] at *; first | done | omega | (intros; omega)) | (simp; done) | (simp; omega) | (simp +contextual; done) | (intro h; rw [h]; rfl) | (intro hq; have hq2 := hq; simp only [Bool.and_eq_true, Bool.or_eq_true, Bool.not_eq_true', Bool.not_not, Bool.not_eq_false', decide_eq_true_eq, decide_eq_false_iff_not] at hq2; (repeat' (first | exact hq | (with_reducible refine And.intro ?_ ?_) | omega | (simp_all; done))); done) | (intros; simp_all; done)))
 | (with_reducible refine retK_n ?_)
 | (with_reducible refine retK_n' ?_)
 | (with_reducible refine retH_n rfl rfl rfl ?_)
 | (with_reducible refine retH_n' rfl rfl rfl ?_)
 | ((with_reducible show condN _ _ _ _ _ _); first
 | ((with_reducible refine condN_t ?_ ?_) <;> (intro hc; (try simp only [Bool.and_eq_true, Bool.or_eq_true, Bool.not_eq_true', Bool.and_eq_false_iff, Bool.or_eq_false_iff, decide_eq_true_eq, decide_eq_false_iff_not, bne_iff_ne, beq_iff_eq, reduceCtorEq, bne_eq_false_iff_eq, beq_eq_false_iff_ne, Bool.not_eq_false', Int.not_le, Int.not_lt, Bool.not_not] at hc); (skip); (try (exfalso; first | contradiction | omega)))))
 | ((with_reducible refine And.intro ?_ ?_); focus ((with_reducible show chkR _ _ _ = true); kernel_rfl))
 | ((with_reducible show callN _ _ _ _ _ _ _ _ _ _); first
 | (refine callN_q (k := 162) fnok_162 (cmpW_p x y z w (by omega) (by omega)) ?_ ?_)
 | (refine callN_q (k := 162) fnok_162 (cmpW_p u v z w (by omega) (by omega)) ?_ ?_)
 | (refine callN_q (k := 162) fnok_162 (cmpW_p x y u v (by omega) (by omega)) ?_ ?_))
 | ((with_reducible show callDN _ _ _ _ _ _ _ _ _ _ _ _ _); first
 | (refine callDN_q (k := 162) fnok_162 (cmpW_p x y z w (by omega) (by omega)) ?_ ?_)
 | (refine callDN_q (k := 162) fnok_162 (cmpW_p u v z w (by omega) (by omega)) ?_ ?_)
 | (refine callDN_q (k := 162) fnok_162 (cmpW_p x y u v (by omega) (by omega)) ?_ ?_))
 | ((fail_if_success (with_reducible show AW _ _ _ _)); simp (maxSteps := 2000000) only [go_sem, reduceIte, reduceCtorEq, Nat.reduceAdd, Nat.reduceLT, Nat.reduceLeDiff, Nat.reduceEqDiff, Nat.reduceMul, Nat.reduceSub, Nat.reduceBEq, Tryz.f147, of_151_0, ty_28, of_151_1, zc_159, ty_159, fnok_162])
 | ((with_reducible refine hK _ ?_); clear hK K))
  all_goals (first | (unfold hasP; simp_all; done) | (unfold hasP; rw [if_neg (by omega), if_neg (by omega)]) | (unfold hasP; rw [if_neg (by omega), if_pos (by omega)]) | skip)

theorem rhasP_p (x y u v z w : Int) (d1 : dirB x y = true) (d2 : dirB u v = true) (d3 : dirB z w = true) : CallsP Tryz.prog 154 [.agg [.g (.int .i64 (x)), .g (.int .i64 (y))], .agg [.g (.int .i64 (u)), .g (.int .i64 (v))], .agg [.g (.int .i64 (z)), .g (.int .i64 (w))]] (.t (.one (.g (.bool (hasP x y u v z w))))) := by
  rw [← hasR_eq d1 d2 d3]; exact grhas_p x y u v z w d1 d2 d3

set_option maxRecDepth 100000 in
set_option maxHeartbeats 4000000 in
theorem sec_p (a b c d k r : Int) : CallsP Tryz.prog 146 [.agg [.g (.int .i64 (a)), .g (.int .i64 (b)), .g (.int .i64 (c)), .g (.int .i64 (d)), .g (.int .i64 (k)), .g (.int .i64 (r))]] (.t (.one (.g (.bool (secB a b c d k r))))) := by
  refine CallsP_of Tryz.func146 rfl (by rw [Tryz.ntmps146]; simp) ?_
  simp only [Tryz.ntmps146, List.map_cons, List.map_nil, PT.tv, argEnv, Nat.zero_add, Nat.reduceAdd]
  repeat' (first
 | ((with_reducible show AW _ _ _ _); first
 | (with_reducible refine AW_seq_k fun K hK => ?_)
 | (with_reducible refine AW_skip ?_)
 | (with_reducible refine AW_exit ?_)
 | (with_reducible refine AW_ret ?_)
 | (with_reducible refine AW_condI ?_)
 | (with_reducible refine AW_block ?_)
 | ((with_reducible show AW _ (Code.region _ _ _) _ _); first
 | (with_reducible refine AW_regionP 0 [0] ?_)
 | (with_reducible refine AW_regionP 1 [1] ?_)))
 | ((first | (with_reducible refine And.intro ?_ ?_) | (with_reducible refine Need.mk ?_)); focus (first | exact True.intro | (with_reducible assumption) | omega | (refine ⟨?_, ?_⟩ <;> omega) | (intro _; first | exact True.intro | (with_reducible assumption) | omega) | (intros; (repeat' (first | exact True.intro | omega | (with_reducible assumption) | (with_reducible refine And.intro ?_ ?_))); done) | (simp (disch := omega) only [Bool.and_eq_true, Bool.or_eq_true, decide_eq_true_eq, bne_iff_ne, ne_eq] at *; first | done | omega | (intros; omega)) | (simp; done) | (simp; omega) | (simp +contextual; done) | (intro h; rw [h]; rfl) | (intro hq; have hq2 := hq; simp only [Bool.and_eq_true, Bool.or_eq_true, Bool.not_eq_true', Bool.not_not, Bool.not_eq_false', decide_eq_true_eq, decide_eq_false_iff_not] at hq2; (repeat' (first | exact hq | (with_reducible refine And.intro ?_ ?_) | omega | (simp_all; done))); done) | (intros; simp_all; done)))
 | (with_reducible refine retK_n ?_)
 | (with_reducible refine retK_n' ?_)
 | (with_reducible refine retH_n rfl rfl rfl ?_)
 | (with_reducible refine retH_n' rfl rfl rfl ?_)
 | ((with_reducible show condN _ _ _ _ _ _); first
 | ((with_reducible refine condN_t ?_ ?_) <;> (intro hc; (try simp only [Bool.and_eq_true, Bool.or_eq_true, Bool.not_eq_true', Bool.and_eq_false_iff, Bool.or_eq_false_iff, decide_eq_true_eq, decide_eq_false_iff_not, bne_iff_ne, beq_iff_eq, reduceCtorEq, bne_eq_false_iff_eq, beq_eq_false_iff_ne, Bool.not_eq_false', Int.not_le, Int.not_lt, Bool.not_not] at hc); (skip); (try (exfalso; first | contradiction | omega)))))
 | ((with_reducible show callN _ _ _ _ _ _ _ _ _ _); first
 | (refine callN_q (k := 161) fnok_161 (wok_p a b) ?_ ?_)
 | (refine callN_q (k := 161) fnok_161 (wok_p c d) ?_ ?_))
 | ((with_reducible show callGN _ _ _ _ _ _ _ _ _ _); first
 | (refine callGN_q (k := 161) fnok_161 (fun hg => wok_p a b) ?_ ?_)
 | (refine callGN_q (k := 161) fnok_161 (fun hg => wok_p c d) ?_ ?_))
 | ((fail_if_success (with_reducible show AW _ _ _ _)); simp (maxSteps := 2000000) only [go_sem, reduceIte, reduceCtorEq, Nat.reduceAdd, Nat.reduceLT, Nat.reduceLeDiff, Nat.reduceEqDiff, Nat.reduceMul, Nat.reduceSub, Nat.reduceBEq, Tryz.f146, of_151_0, ty_28, fnok_161, of_151_1, of_151_2, ty_3, of_151_3])
 | ((with_reducible refine hK _ ?_); clear hK K))
  all_goals (first | (unfold secB; refine Bool.eq_iff_iff.2 ?_; simp only [Bool.and_eq_true, decide_eq_true_eq, ge_iff_le, and_assoc]; first | done | omega | (simp_all; done)) | (unfold secB; simp_all; done) | skip)

set_option maxRecDepth 100000 in
set_option maxHeartbeats 4000000 in
theorem rsec_p (a b c d k r : Int) : CallsP Tryz.prog 153 [.agg [.g (.int .i64 (a)), .g (.int .i64 (b)), .g (.int .i64 (c)), .g (.int .i64 (d)), .g (.int .i64 (k)), .g (.int .i64 (r))]] (.t (.one (.g (.bool (secB a b c d k r))))) := by
  refine CallsP_of Tryz.func153 rfl (by rw [Tryz.ntmps153]; simp) ?_
  simp only [Tryz.ntmps153, List.map_cons, List.map_nil, PT.tv, argEnv, Nat.zero_add, Nat.reduceAdd]
  repeat' (first
 | ((with_reducible show AW _ _ _ _); first
 | (with_reducible refine AW_seq_k fun K hK => ?_)
 | (with_reducible refine AW_skip ?_)
 | (with_reducible refine AW_exit ?_)
 | (with_reducible refine AW_ret ?_)
 | (with_reducible refine AW_condI ?_)
 | (with_reducible refine AW_block ?_)
 | ((with_reducible show AW _ (Code.region _ _ _) _ _); first
 | (with_reducible refine AW_regionP 0 [0] ?_)
 | (with_reducible refine AW_regionP 1 [1] ?_)
 | (with_reducible refine AW_regionP 2 [1, 3] ?_)
 | (with_reducible refine AW_regionP 3 [1, 3, 4] ?_)))
 | ((first | (with_reducible refine And.intro ?_ ?_) | (with_reducible refine Need.mk ?_)); focus (first | exact True.intro | (with_reducible assumption) | omega | (refine ⟨?_, ?_⟩ <;> omega) | (intro _; first | exact True.intro | (with_reducible assumption) | omega) | (intros; (repeat' (first | exact True.intro | omega | (with_reducible assumption) | (with_reducible refine And.intro ?_ ?_))); done) | (simp (disch := omega) only [Bool.and_eq_true, Bool.or_eq_true, decide_eq_true_eq, bne_iff_ne, ne_eq] at *; first | done | omega | (intros; omega)) | (simp; done) | (simp; omega) | (simp +contextual; done) | (intro h; rw [h]; rfl) | (intro hq; have hq2 := hq; simp only [Bool.and_eq_true, Bool.or_eq_true, Bool.not_eq_true', Bool.not_not, Bool.not_eq_false', decide_eq_true_eq, decide_eq_false_iff_not] at hq2; (repeat' (first | exact hq | (with_reducible refine And.intro ?_ ?_) | omega | (simp_all; done))); done) | (intros; simp_all; done)))
 | (with_reducible refine retK_n ?_)
 | (with_reducible refine retK_n' ?_)
 | (with_reducible refine retH_n rfl rfl rfl ?_)
 | (with_reducible refine retH_n' rfl rfl rfl ?_)
 | ((with_reducible show condN _ _ _ _ _ _); first
 | ((with_reducible refine condN_t ?_ ?_) <;> (intro hc; (try simp only [Bool.and_eq_true, Bool.or_eq_true, Bool.not_eq_true', Bool.and_eq_false_iff, Bool.or_eq_false_iff, decide_eq_true_eq, decide_eq_false_iff_not, bne_iff_ne, beq_iff_eq, reduceCtorEq, bne_eq_false_iff_eq, beq_eq_false_iff_ne, Bool.not_eq_false', Int.not_le, Int.not_lt, Bool.not_not] at hc); (skip); (try (exfalso; first | contradiction | omega)))))
 | ((with_reducible show callN _ _ _ _ _ _ _ _ _ _); first
 | (refine callN_q (k := 167) fnok_167 (rdir_p a b) ?_ ?_)
 | (refine callN_q (k := 167) fnok_167 (rdir_p c d) ?_ ?_))
 | ((fail_if_success (with_reducible show AW _ _ _ _)); simp (maxSteps := 2000000) only [go_sem, reduceIte, reduceCtorEq, Nat.reduceAdd, Nat.reduceLT, Nat.reduceLeDiff, Nat.reduceEqDiff, Nat.reduceMul, Nat.reduceSub, Nat.reduceBEq, Tryz.f153, of_151_0, ty_28, fnok_167, of_151_1, of_151_2, ty_3, of_151_3])
 | ((with_reducible refine hK _ ?_); clear hK K))
  all_goals (first | (unfold secB; refine Bool.eq_iff_iff.2 ?_; simp only [Bool.and_eq_true, decide_eq_true_eq, ge_iff_le, and_assoc]; first | done | omega | (simp_all; done)) | (unfold secB; simp_all; done) | skip)

set_option maxRecDepth 100000 in
set_option maxHeartbeats 4000000 in
theorem Secs_p (n : Nat) (S : Nat → Nat → Int) (hn : n ≤ 9223372036854775807) : CallsP Tryz.prog 126 [.one (.lst 6 n (ptI S))] (.t (.one (.g (.bool (secsB n S))))) := by
  refine CallsP_of Tryz.func126 rfl (by rw [Tryz.ntmps126]; simp) ?_
  simp only [Tryz.ntmps126, List.map_cons, List.map_nil, PT.tv, argEnv, Nat.zero_add, Nat.reduceAdd]
  repeat' (first
 | ((with_reducible show AW _ _ _ _); first
 | (with_reducible refine AW_seq_k fun K hK => ?_)
 | (with_reducible refine AW_skip ?_)
 | (with_reducible refine AW_exit ?_)
 | (with_reducible refine AW_ret ?_)
 | (with_reducible refine AW_condI ?_)
 | (with_reducible refine AW_block ?_)
 | ((with_reducible show AW _ (Code.region _ _ _) _ _); first
 | (with_reducible refine AW_regionP 0 [0] ?_)
 | (with_reducible refine AW_regionP 1 [0] ?_)
 | (with_reducible refine AW_regionP 2 [0, 7, 8, 9] ?_)
 | (with_reducible refine AW_regionP 3 [0, 7, 8, 9] ?_)
 | (with_reducible refine AW_regionP 4 [0, 3, 4, 7, 8, 9] ?_)
 | (with_reducible refine AW_regionP 5 [] ?_)
 | (with_reducible refine AW_regionP 6 [0, 3, 4, 7, 8, 9] ?_)
 | (with_reducible refine AW_regionP 7 [0, 4, 7, 8, 9, 19, 20, 21] ?_)
 | (with_reducible refine AW_regionP 8 [0, 4, 7, 8, 9, 19, 20, 21] ?_)
 | (with_reducible refine AW_regionP 9 [0, 4, 6, 7, 8, 9, 19, 20, 21] ?_)
 | (with_reducible refine AW_regionP 10 [] ?_)
 | (with_reducible refine AW_regionP 11 [0, 4, 7, 8, 9, 19, 20, 21] ?_)
 | (with_reducible refine AW_regionP 12 [0, 7, 8, 9] ?_)
 | (with_reducible refine AW_regionP 13 [0] ?_))
 | ((with_reducible show AW _ (Code.loop _) _ _); first
 | ((with_reducible refine AW_loopQ (c := (Code.seq (Code.region 2 _ _) _)) (ι := Nat) [0, 7, 8] (fun i => [(9, iA .i64 (i : Int))]) (fun i => []) (fun i => i ≤ n ∧ (∀ i', i' < i → secsO S i')) (fun i => n - i) 0 ?lg2 ?l12 ?l22 ?li2 ?lr2); (case' lg2 => rintro i _); (case' li2 => try (exact ⟨Nat.zero_le _, fun i hi => absurd hi (Nat.not_lt_zero _)⟩)); (case' lr2 => rintro i ⟨hi, hai⟩ KR hR2; skip; simp only [keepE, hupd, hset, lk, if_true, if_false, Nat.reduceEqDiff, reduceIte, List.cons_append, List.nil_append, ptI]))
 | ((with_reducible refine AW_loopQ (c := (Code.seq (Code.region 7 _ _) _)) (ι := Nat) [0, 4, 7, 8, 9, 19, 20] (fun j => [(21, iA .i64 (j : Int))]) (fun j => []) (fun j => j ≤ i ∧ secI S i = true ∧ (∀ j', j' < j → hasI S i j' = false ∧ hasI S j' i = false)) (fun j => i - j) 0 ?lg7 ?l17 ?l27 ?li7 ?lr7); (case' lg7 => rintro j _); (case' li7 => try (exact ⟨Nat.zero_le _, by assumption, fun i hi => absurd hi (Nat.not_lt_zero _)⟩)); (case' lr7 => rintro j ⟨hj, hsi, haj⟩ KR hR7; skip; simp only [keepE, hupd, hset, lk, if_true, if_false, Nat.reduceEqDiff, reduceIte, List.cons_append, List.nil_append, ptI]))))
 | ((first | (with_reducible refine And.intro ?_ ?_) | (with_reducible refine Need.mk ?_)); focus (first | exact True.intro | (with_reducible assumption) | omega | (refine ⟨?_, ?_⟩ <;> omega) | (intro _; first | exact True.intro | (with_reducible assumption) | omega) | (intros; (repeat' (first | exact True.intro | omega | (with_reducible assumption) | (with_reducible refine And.intro ?_ ?_))); done) | (simp (disch := omega) only [Bool.and_eq_true, Bool.or_eq_true, decide_eq_true_eq, bne_iff_ne, ne_eq] at *; first | done | omega | (intros; omega)) | (simp; done) | (simp; omega) | (simp +contextual; done) | (intro h; rw [h]; rfl) | (intro hq; have hq2 := hq; simp only [Bool.and_eq_true, Bool.or_eq_true, Bool.not_eq_true', Bool.not_not, Bool.not_eq_false', decide_eq_true_eq, decide_eq_false_iff_not] at hq2; (repeat' (first | exact hq | (with_reducible refine And.intro ?_ ?_) | omega | (simp_all; done))); done) | (intros; simp_all; done)))
 | (with_reducible refine retK_n ?_)
 | (with_reducible refine retK_n' ?_)
 | (with_reducible refine retH_n rfl rfl rfl ?_)
 | (with_reducible refine retH_n' rfl rfl rfl ?_)
 | ((with_reducible show condN _ _ _ _ _ _); first
 | ((with_reducible refine condN_t ?_ ?_) <;> (intro hc; (try simp only [Bool.and_eq_true, Bool.or_eq_true, Bool.not_eq_true', Bool.and_eq_false_iff, Bool.or_eq_false_iff, decide_eq_true_eq, decide_eq_false_iff_not, bne_iff_ne, beq_iff_eq, reduceCtorEq, bne_eq_false_iff_eq, beq_eq_false_iff_ne, Bool.not_eq_false', Int.not_le, Int.not_lt, Bool.not_not] at hc); (skip); (try (exfalso; first | contradiction | omega)))))
 | ((with_reducible show callN _ _ _ _ _ _ _ _ _ _); first
 | (refine callN_q (k := 146) fnok_146 (sec_p _ _ _ _ _ _) ?_ ?_)
 | (refine callN_q (k := 147) fnok_147 (ghas_p _ _ _ _ _ _ _ _ (sec_1 hsi) (sec_2 hsi) (sec_1 (hai _ (by omega)).1)) ?_ ?_)
 | (refine callN_q (k := 147) fnok_147 (ghas_p _ _ _ _ _ _ _ _ (sec_1 (hai _ (by omega)).1) (sec_2 (hai _ (by omega)).1) (sec_1 hsi)) ?_ ?_))
 | ((with_reducible show callGN _ _ _ _ _ _ _ _ _ _); first
 | (refine callGN_q (k := 147) fnok_147 (fun hg => ghas_p _ _ _ _ _ _ _ _ (sec_1 hsi) (sec_2 hsi) (sec_1 (hai _ (by omega)).1)) ?_ ?_)
 | (refine callGN_q (k := 147) fnok_147 (fun hg => ghas_p _ _ _ _ _ _ _ _ (sec_1 (hai _ (by omega)).1) (sec_2 (hai _ (by omega)).1) (sec_1 hsi)) ?_ ?_))
 | ((with_reducible refine hR2 _ (i + 1) ?_); (try clear hR2 KR))
 | ((with_reducible refine hR7 _ (j + 1) ?_); (try clear hR7 KR))
 | ((with_reducible refine Told.mk ?_); simp only [go_sem, reduceIte, reduceCtorEq, Nat.reduceAdd, Nat.reduceLT, Nat.reduceLeDiff, Nat.reduceEqDiff, Nat.reduceMul, Nat.reduceSub, Nat.reduceBEq, ptI] <;> (first | exact True.intro | (((try simp (disch := omega) only [seaWrap, Int.natCast_add, Int.cast_ofNat_Int, and_true, true_and, and_self]); (repeat' (first | exact True.intro | omega | rfl | (with_reducible assumption) | (with_reducible refine And.intro ?_ ?_) | (exact all_succ (by assumption) (by assumption)) | ((exact all_succ (by assumption) ⟨by assumption, fun j hj => haj j (by omega)⟩)))); done)) | (((try simp (disch := omega) only [seaWrap, Int.natCast_add, Int.cast_ofNat_Int, and_true, true_and, and_self]); (repeat' (first | exact True.intro | omega | rfl | (with_reducible assumption) | (with_reducible refine And.intro ?_ ?_) | (exact all_succ (by assumption) (by assumption)) | ((exact all_succ (by assumption) ⟨by assumption, by assumption⟩)))); done)) | (refine Stuck.out ?_)))
 | ((fail_if_success (with_reducible show AW _ _ _ _)); simp (maxSteps := 2000000) only [go_sem, reduceIte, reduceCtorEq, Nat.reduceAdd, Nat.reduceLT, Nat.reduceLeDiff, Nat.reduceEqDiff, Nat.reduceMul, Nat.reduceSub, Nat.reduceBEq, Tryz.f126, le_55, sl_55, ar_55, ty_151, zc_151, fnok_146, of_151_0, ty_28, fnok_147, ptI])
 | ((fail_if_success (with_reducible show AW _ _ _ _)); simp (disch := omega) only [seaWrap, seaDiv, seaMod])
 | ((with_reducible refine hK _ ?_); clear hK K)
 | (with_reducible apply_assumption -exfalso only [*]))
  all_goals (first | exact secs_f1 (by assumption) (by assumption) | exact Or.elim (by assumption) (secs_f2 (by omega) (by omega)) (secs_f3 (by omega) (by omega)) | exact secs_f4 (by assumption) | exact secs_t (by assumption) (by assumption) (by assumption) | exact secs_t2 (by assumption) (by assumption) (by assumption) (by assumption) | skip)

set_option maxRecDepth 100000 in
set_option maxHeartbeats 4000000 in
theorem rSecs_p (n : Nat) (S : Nat → Nat → Int) (hn : n ≤ 9223372036854775807) : CallsP Tryz.prog 129 [.one (.lst 6 n (ptI S))] (.t (.one (.g (.bool (secsB n S))))) := by
  refine CallsP_of Tryz.func129 rfl (by rw [Tryz.ntmps129]; simp) ?_
  simp only [Tryz.ntmps129, List.map_cons, List.map_nil, PT.tv, argEnv, Nat.zero_add, Nat.reduceAdd]
  repeat' (first
 | ((with_reducible show AW _ _ _ _); first
 | (with_reducible refine AW_seq_k fun K hK => ?_)
 | (with_reducible refine AW_skip ?_)
 | (with_reducible refine AW_exit ?_)
 | (with_reducible refine AW_ret ?_)
 | (with_reducible refine AW_condI ?_)
 | (with_reducible refine AW_block ?_)
 | ((with_reducible show AW _ (Code.region _ _ _) _ _); first
 | (with_reducible refine AW_regionP 0 [0] ?_)
 | (with_reducible refine AW_regionP 1 [0] ?_)
 | (with_reducible refine AW_regionP 2 [] ?_)
 | (with_reducible refine AW_regionP 3 [0] ?_)
 | (with_reducible refine AW_regionP 4 [0, 3] ?_)
 | (with_reducible refine AW_regionP 5 [0, 3] ?_)
 | (with_reducible refine AW_regionP 6 [0, 3] ?_)
 | (with_reducible refine AW_regionP 7 [0, 3, 4] ?_)
 | (with_reducible refine AW_regionP 8 [] ?_)
 | (with_reducible refine AW_regionP 9 [0, 3] ?_)
 | (with_reducible refine AW_regionP 10 [0, 3, 5] ?_)
 | (with_reducible refine AW_regionP 11 [0, 3, 5] ?_)
 | ((with_reducible refine AW_prune (c := Code.region 12 _ true) [0, 3, 5] ?_); (with_reducible refine AW_regionD ?_ ?_ ?_ ?_); (focus kernel_rfl); (focus kernel_rfl); (focus kernel_rfl))
 | (with_reducible refine AW_regionP 13 [] ?_)
 | (with_reducible refine AW_regionP 14 [] ?_))
 | ((with_reducible show AW _ (Code.loop _) _ _); first
 | ((with_reducible refine AW_loopQ (c := (Code.seq (Code.seq (Code.region 4 _ _) _) _)) (ι := Nat) [0] (fun i => [(3, iA .i64 (i : Int))]) (fun i => []) (fun i => i ≤ n ∧ (∀ i', i' < i → secsO S i')) (fun i => n - i) 0 ?lg4 ?l14 ?l24 ?li4 ?lr4); (case' lg4 => rintro i _); (case' li4 => try (exact ⟨Nat.zero_le _, fun i hi => absurd hi (Nat.not_lt_zero _)⟩)); (case' lr4 => rintro i ⟨hi, hai⟩ KR hR4; skip; simp only [keepE, hupd, hset, lk, if_true, if_false, Nat.reduceEqDiff, reduceIte, List.cons_append, List.nil_append, ptI]))
 | ((with_reducible refine AW_loopQ (c := (Code.seq (Code.seq (Code.region 10 _ _) _) _)) (ι := Nat) [0, 3] (fun j => [(5, iA .i64 (j : Int))]) (fun j => []) (fun j => j ≤ i ∧ secI S i = true ∧ (∀ j', j' < j → hasI S i j' = false ∧ hasI S j' i = false)) (fun j => i - j) 0 ?lg10 ?l110 ?l210 ?li10 ?lr10); (case' lg10 => rintro j _); (case' li10 => try (exact ⟨Nat.zero_le _, by assumption, fun i hi => absurd hi (Nat.not_lt_zero _)⟩)); (case' lr10 => rintro j ⟨hj, hsi, haj⟩ KR hR10; skip; simp only [keepE, hupd, hset, lk, if_true, if_false, Nat.reduceEqDiff, reduceIte, List.cons_append, List.nil_append, ptI]))))
 | ((first | (with_reducible refine And.intro ?_ ?_) | (with_reducible refine Need.mk ?_)); focus (first | exact True.intro | (with_reducible assumption) | omega | (refine ⟨?_, ?_⟩ <;> omega) | (intro _; first | exact True.intro | (with_reducible assumption) | omega) | (intros; (repeat' (first | exact True.intro | omega | (with_reducible assumption) | (with_reducible refine And.intro ?_ ?_))); done) | (simp (disch := omega) only [Bool.and_eq_true, Bool.or_eq_true, decide_eq_true_eq, bne_iff_ne, ne_eq] at *; first | done | omega | (intros; omega)) | (simp; done) | (simp; omega) | (simp +contextual; done) | (intro h; rw [h]; rfl) | (intro hq; have hq2 := hq; simp only [Bool.and_eq_true, Bool.or_eq_true, Bool.not_eq_true', Bool.not_not, Bool.not_eq_false', decide_eq_true_eq, decide_eq_false_iff_not] at hq2; (repeat' (first | exact hq | (with_reducible refine And.intro ?_ ?_) | omega | (simp_all; done))); done) | (intros; simp_all; done)))
 | (with_reducible refine retK_n ?_)
 | (with_reducible refine retK_n' ?_)
 | (with_reducible refine retH_n rfl rfl rfl ?_)
 | (with_reducible refine retH_n' rfl rfl rfl ?_)
 | ((with_reducible show condN _ _ _ _ _ _); first
 | ((with_reducible refine condN_t ?_ ?_) <;> (intro hc; (try simp only [Bool.and_eq_true, Bool.or_eq_true, Bool.not_eq_true', Bool.and_eq_false_iff, Bool.or_eq_false_iff, decide_eq_true_eq, decide_eq_false_iff_not, bne_iff_ne, beq_iff_eq, reduceCtorEq, bne_eq_false_iff_eq, beq_eq_false_iff_ne, Bool.not_eq_false', Int.not_le, Int.not_lt, Bool.not_not] at hc); (skip); (try (exfalso; first | contradiction | omega)))))
 | ((with_reducible refine And.intro ?_ ?_); focus ((with_reducible show chkR _ _ _ = true); kernel_rfl))
 | ((with_reducible show callN _ _ _ _ _ _ _ _ _ _); first
 | (refine callN_q (k := 153) fnok_153 (rsec_p _ _ _ _ _ _) ?_ ?_))
 | ((with_reducible show callDN _ _ _ _ _ _ _ _ _ _ _ _ _); first
 | (refine callDN_q (k := 154) fnok_154 (rhasP_p _ _ _ _ _ _ (sec_1 hsi) (sec_2 hsi) (sec_1 (hai _ (by omega)).1)) ?_ ?_)
 | (refine callDN_q (k := 154) fnok_154 (rhasP_p _ _ _ _ _ _ (sec_1 (hai _ (by omega)).1) (sec_2 (hai _ (by omega)).1) (sec_1 hsi)) ?_ ?_))
 | ((with_reducible show callDGN _ _ _ _ _ _ _ _ _ _ _ _ _); first
 | (refine callDGN_q (k := 154) fnok_154 (fun hg => rhasP_p _ _ _ _ _ _ (sec_1 hsi) (sec_2 hsi) (sec_1 (hai _ (by omega)).1)) ?_ ?_)
 | (refine callDGN_q (k := 154) fnok_154 (fun hg => rhasP_p _ _ _ _ _ _ (sec_1 (hai _ (by omega)).1) (sec_2 (hai _ (by omega)).1) (sec_1 hsi)) ?_ ?_))
 | ((with_reducible refine hR4 _ (i + 1) ?_); (try clear hR4 KR))
 | ((with_reducible refine hR10 _ (j + 1) ?_); (try clear hR10 KR))
 | ((with_reducible refine Told.mk ?_); simp only [go_sem, reduceIte, reduceCtorEq, Nat.reduceAdd, Nat.reduceLT, Nat.reduceLeDiff, Nat.reduceEqDiff, Nat.reduceMul, Nat.reduceSub, Nat.reduceBEq, ptI] <;> (first | exact True.intro | (((try simp (disch := omega) only [seaWrap, Int.natCast_add, Int.cast_ofNat_Int, and_true, true_and, and_self]); (repeat' (first | exact True.intro | omega | rfl | (with_reducible assumption) | (with_reducible refine And.intro ?_ ?_) | (exact all_succ (by assumption) (by assumption)) | ((exact all_succ (by assumption) ⟨by assumption, fun j hj => haj j (by omega)⟩)))); done)) | (((try simp (disch := omega) only [seaWrap, Int.natCast_add, Int.cast_ofNat_Int, and_true, true_and, and_self]); (repeat' (first | exact True.intro | omega | rfl | (with_reducible assumption) | (with_reducible refine And.intro ?_ ?_) | (exact all_succ (by assumption) (by assumption)) | ((exact all_succ (by assumption) ⟨by assumption, by assumption⟩)))); done)) | (refine Stuck.out ?_)))
 | ((fail_if_success (with_reducible show AW _ _ _ _)); simp (maxSteps := 2000000) only [go_sem, reduceIte, reduceCtorEq, Nat.reduceAdd, Nat.reduceLT, Nat.reduceLeDiff, Nat.reduceEqDiff, Nat.reduceMul, Nat.reduceSub, Nat.reduceBEq, Tryz.f129, le_55, sl_55, ar_55, ty_151, fnok_153, of_151_0, ty_28, of_151_1, fnok_154, ptI])
 | ((fail_if_success (with_reducible show AW _ _ _ _)); simp (disch := omega) only [seaWrap, seaDiv, seaMod])
 | ((with_reducible refine hK _ ?_); clear hK K)
 | (with_reducible apply_assumption -exfalso only [*]))
  all_goals (first | exact secs_f1 (by assumption) (by assumption) | exact Or.elim (by assumption) (secs_f2 (by omega) (by omega)) (secs_f3 (by omega) (by omega)) | exact secs_f4 (by assumption) | exact secs_t (by assumption) (by assumption) (by assumption) | exact secs_t2 (by assumption) (by assumption) (by assumption) (by assumption) | skip)

end Go.Proofs.YtbckibbgajfihaaGreat
