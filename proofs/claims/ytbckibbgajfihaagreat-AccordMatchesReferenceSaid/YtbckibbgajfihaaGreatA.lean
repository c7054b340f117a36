/- A: walks on abstract states. -/
import Derived.Test.YtbckibbgajfihaaGreatSea7
import Derived.Test.YtbckibbgajfihaaGreatProg
set_option linter.unusedVariables false
set_option linter.unusedSimpArgs false
namespace Go.Proofs.YtbckibbgajfihaaGreat
open Go.RowKit Go.Sea
theorem bo_63 : boD Tryz.prog 63 = false := by kernel_rfl
theorem eq_63 : eqD Tryz.prog 63 = some (true, [.int .i64, .int .i64]) := by kernel_rfl
theorem fnok_38 : fnOk Tryz.prog 38 = true := by kernel_rfl
theorem fnok_54 : fnOk Tryz.prog 54 = true := by kernel_rfl
theorem fnok_62 : fnOk Tryz.prog 62 = true := by kernel_rfl
theorem fnok_57 : fnOk Tryz.prog 57 = true := by kernel_rfl
theorem fnok_83 : fnOk Tryz.prog 83 = true := by kernel_rfl
theorem fnok_74 : fnOk Tryz.prog 74 = true := by kernel_rfl
theorem fnok_75 : fnOk Tryz.prog 75 = true := by kernel_rfl
theorem fnok_82 : fnOk Tryz.prog 82 = true := by kernel_rfl
theorem fnok_93 : fnOk Tryz.prog 93 = true := by kernel_rfl
theorem fnok_97 : fnOk Tryz.prog 97 = true := by kernel_rfl
theorem fo_63 : fieldsOk Tryz.prog 63 = true := by kernel_rfl
theorem fo_65 : fieldsOk Tryz.prog 65 = true := by kernel_rfl
theorem of_28_0 : offOf Tryz.prog 28 0 = some 0 := by kernel_rfl
theorem of_28_1 : offOf Tryz.prog 28 1 = some 1 := by kernel_rfl
theorem of_63_0 : offOf Tryz.prog 63 0 = some 0 := by kernel_rfl
theorem of_63_1 : offOf Tryz.prog 63 1 = some 1 := by kernel_rfl
theorem of_65_0 : offOf Tryz.prog 65 0 = some 0 := by kernel_rfl
theorem of_65_1 : offOf Tryz.prog 65 1 = some 2 := by kernel_rfl
theorem of_67_0 : offOf Tryz.prog 67 0 = some 0 := by kernel_rfl
theorem of_67_1 : offOf Tryz.prog 67 1 = some 1 := by kernel_rfl
theorem pl_63_0 : placeF Tryz.prog 63 0 = some (0, 1) := by kernel_rfl
theorem pl_63_1 : placeF Tryz.prog 63 1 = some (1, 1) := by kernel_rfl
theorem pl_65_0 : placeF Tryz.prog 65 0 = some (0, 2) := by kernel_rfl
theorem pl_65_1 : placeF Tryz.prog 65 1 = some (2, 2) := by kernel_rfl
theorem ty_3 : tyD Tryz.prog 3 = some (false, 1) := by kernel_rfl
theorem ty_63 : tyD Tryz.prog 63 = some (true, 2) := by kernel_rfl
theorem ty_65 : tyD Tryz.prog 65 = some (true, 4) := by kernel_rfl
theorem zc_63 : zeroC Tryz.prog 63 = some [.iv (.g (.int .i64 0)), .iv (.g (.int .i64 0))] := by kernel_rfl
theorem zc_65 : zeroC Tryz.prog 65 = some [.iv (.g (.int .i64 0)), .iv (.g (.int .i64 0)), .iv (.g (.int .i64 0)), .iv (.g (.int .i64 0))] := by kernel_rfl

def sv (l u : Int) : Bool := decide (-1000000000000 ≤ l ∧ l ≤ u ∧ u ≤ 1000000000000)
def vbox (a b c d : Int) : Bool := decide ((-1000000 ≤ a ∧ a ≤ b ∧ b ≤ 1000000) ∧ (-1000000 ≤ c ∧ c ≤ d ∧ d ≤ 1000000))
def offB (n : Int) : Bool := decide (1 ≤ n ∧ n ≤ 20)
def soundB (o a b c d : Int) : Bool := decide ((1 ≤ o ∧ o ≤ 20) ∧ (-1000000 ≤ a ∧ a < b ∧ b ≤ 1000000) ∧ (-1000000 ≤ c ∧ c < d ∧ d ≤ 1000000))
def hasB (a b c d x y : Int) : Bool := decide ((a ≤ x ∧ x ≤ b) ∧ (c ≤ y ∧ y ≤ d))
def inB (a b c d x y : Int) : Bool := decide ((a < x ∧ x < b) ∧ (c < y ∧ y < d))
def jE (s0 s1 t0 t1 : Int) : Int := bif sv s0 s1 && sv t0 t1 then 0 else 1
def jL (s0 s1 t0 t1 : Int) : Int := bif sv s0 s1 && sv t0 t1 then min s0 t0 else 0
def jH (s0 s1 t0 t1 : Int) : Int := bif sv s0 s1 && sv t0 t1 then max s1 t1 else 0
def mE (s0 s1 t0 t1 : Int) : Int := bif sv s0 s1 && sv t0 t1 then (bif decide (min s1 t1 < max s0 t0) then 4 else 0) else 1
def mL (s0 s1 t0 t1 : Int) : Int := bif sv s0 s1 && sv t0 t1 && !decide (min s1 t1 < max s0 t0) then max s0 t0 else 0
def mH (s0 s1 t0 t1 : Int) : Int := bif sv s0 s1 && sv t0 t1 && !decide (min s1 t1 < max s0 t0) then min s1 t1 else 0
def insB (a b c d a' b' c' d' : Int) : Bool := vbox a b c d && vbox a' b' c' d' && decide (max a a' < min b b' ∧ max c c' < min d d')
def mbV (a b c d a' b' c' d' : Int) : Bool := vbox a b c d && vbox a' b' c' d'
def mbN (a b c d a' b' c' d' : Int) : Bool := decide (min b b' < max a a' ∨ min d d' < max c c')
def mbE (a b c d a' b' c' d' : Int) : Int := bif mbV a b c d a' b' c' d' then (bif mbN a b c d a' b' c' d' then 4 else 0) else 1
def mbx (e x : Int) : Int := if e = 0 then x else 0
theorem sv_t {l u : Int} (h : -1000000000000 ≤ l ∧ l ≤ u ∧ u ≤ 1000000000000) : sv l u = true := decide_eq_true h
theorem sv_M : sv (-1000000) 1000000 = true := by decide
theorem jE_01 (a b c d : Int) : (sv a b = true ∧ sv c d = true ∧ jE a b c d = 0 ∧ jL a b c d = min a c ∧ jH a b c d = max b d) ∨ ((sv a b = false ∨ sv c d = false) ∧ jE a b c d = 1 ∧ jL a b c d = 0 ∧ jH a b c d = 0) := by
  unfold jE jL jH
  cases h1 : sv a b <;> cases h2 : sv c d <;> simp
theorem vbox_d (a b c d : Int) : vbox a b c d = true ↔ ((-1000000 ≤ a ∧ a ≤ b ∧ b ≤ 1000000) ∧ (-1000000 ≤ c ∧ c ≤ d ∧ d ≤ 1000000)) := decide_eq_true_iff

set_option maxRecDepth 100000 in
set_option maxHeartbeats 4000000 in
theorem office_p (n : Int) : CallsP Tryz.prog 57 [.one (.g (.int .i64 (n)))] (.t (.one (.g (.bool (offB n))))) := by
  refine CallsP_of Tryz.func57 rfl (by rw [Tryz.ntmps57]; simp) ?_
  simp only [Tryz.ntmps57, List.map_cons, List.map_nil, PT.tv, argEnv, Nat.zero_add, Nat.reduceAdd]
  repeat' (first
 | ((with_reducible show AW _ _ _ _); first
 | (with_reducible refine AW_seq_k fun K hK => ?_)
 | (with_reducible refine AW_skip ?_)
 | (with_reducible refine AW_exit ?_)
 | (with_reducible refine AW_ret ?_)
 | (with_reducible refine AW_condI ?_)
 | (with_reducible refine AW_block ?_)
 | ((with_reducible show AW _ (Code.region _ _ _) _ _); first
 | (with_reducible refine AW_regionP 0 [0] ?_)
 | (with_reducible refine AW_regionP 1 [0] ?_)))
 | ((first | (with_reducible refine And.intro ?_ ?_) | (with_reducible refine Need.mk ?_)); focus (first | exact True.intro | (with_reducible assumption) | omega | (refine ⟨?_, ?_⟩ <;> omega) | (intro _; first | exact True.intro | (with_reducible assumption) | omega) | (intros; (repeat' (first | exact True.intro | omega | (with_reducible assumption) | (with_reducible refine And.intro ?_ ?_))); done) | (simp (disch := omega) only [Bool.and_eq_true, Bool.or_eq_true, decide_eq_true_eq, bne_iff_ne, ne_eq] at *; first | done | omega | (intros; omega)) | (simp; done) | (simp; omega) | (simp +contextual; done) | (intro h; rw [h]; rfl) | (intros; simp_all; done)))
 | (with_reducible refine retK_n ?_)
 | (with_reducible refine retK_n' ?_)
 | (with_reducible refine retH_n rfl rfl rfl ?_)
 | (with_reducible refine retH_n' rfl rfl rfl ?_)
 | ((with_reducible show condN _ _ _ _ _ _); first
 | ((with_reducible refine condN_t ?_ ?_) <;> (intro hc; (try simp only [Bool.and_eq_true, Bool.or_eq_true, Bool.not_eq_true', Bool.and_eq_false_iff, Bool.or_eq_false_iff, decide_eq_true_eq, decide_eq_false_iff_not, bne_iff_ne, beq_iff_eq, reduceCtorEq, bne_eq_false_iff_eq, beq_eq_false_iff_ne, Bool.not_eq_false', Int.not_le, Int.not_lt, Bool.not_not] at hc); (try (exfalso; first | contradiction | omega)))))
 | ((fail_if_success (with_reducible show AW _ _ _ _)); simp (maxSteps := 2000000) only [go_sem, reduceIte, reduceCtorEq, Nat.reduceAdd, Nat.reduceLT, Nat.reduceLeDiff, Nat.reduceEqDiff, Nat.reduceMul, Nat.reduceSub, Nat.reduceBEq, Tryz.f57, offB])
 | ((with_reducible refine hK _ ?_); clear hK K))
  all_goals (first | (try refine Bool.eq_iff_iff.2 ?_); (simp only [Bool.and_eq_true, Bool.or_eq_true, Bool.not_eq_true', decide_eq_true_eq, decide_eq_false_iff_not, bne_iff_ne, beq_iff_eq, ne_eq, ge_iff_le, gt_iff_lt, cond_eq_ite, iff_self, eq_self]; first | done | omega) | skip)

set_option maxRecDepth 100000 in
set_option maxHeartbeats 4000000 in
theorem sValid_p (a b : Int) : CallsP Tryz.prog 93 [.agg [.g (.int .i64 (a)), .g (.int .i64 (b))]] (.t (.one (.g (.bool (sv a b))))) := by
  refine CallsP_of Tryz.func93 rfl (by rw [Tryz.ntmps93]; simp) ?_
  simp only [Tryz.ntmps93, List.map_cons, List.map_nil, PT.tv, argEnv, Nat.zero_add, Nat.reduceAdd]
  repeat' (first
 | ((with_reducible show AW _ _ _ _); first
 | (with_reducible refine AW_seq_k fun K hK => ?_)
 | (with_reducible refine AW_skip ?_)
 | (with_reducible refine AW_exit ?_)
 | (with_reducible refine AW_ret ?_)
 | (with_reducible refine AW_condI ?_)
 | (with_reducible refine AW_block ?_)
 | ((with_reducible show AW _ (Code.region _ _ _) _ _); first
 | (with_reducible refine AW_regionP 0 [0] ?_)
 | (with_reducible refine AW_regionP 1 [1] ?_)))
 | ((first | (with_reducible refine And.intro ?_ ?_) | (with_reducible refine Need.mk ?_)); focus (first | exact True.intro | (with_reducible assumption) | omega | (refine ⟨?_, ?_⟩ <;> omega) | (intro _; first | exact True.intro | (with_reducible assumption) | omega) | (intros; (repeat' (first | exact True.intro | omega | (with_reducible assumption) | (with_reducible refine And.intro ?_ ?_))); done) | (simp (disch := omega) only [Bool.and_eq_true, Bool.or_eq_true, decide_eq_true_eq, bne_iff_ne, ne_eq] at *; first | done | omega | (intros; omega)) | (simp; done) | (simp; omega) | (simp +contextual; done) | (intro h; rw [h]; rfl) | (intros; simp_all; done)))
 | (with_reducible refine retK_n ?_)
 | (with_reducible refine retK_n' ?_)
 | (with_reducible refine retH_n rfl rfl rfl ?_)
 | (with_reducible refine retH_n' rfl rfl rfl ?_)
 | ((with_reducible show condN _ _ _ _ _ _); first
 | ((with_reducible refine condN_t ?_ ?_) <;> (intro hc; (try simp only [Bool.and_eq_true, Bool.or_eq_true, Bool.not_eq_true', Bool.and_eq_false_iff, Bool.or_eq_false_iff, decide_eq_true_eq, decide_eq_false_iff_not, bne_iff_ne, beq_iff_eq, reduceCtorEq, bne_eq_false_iff_eq, beq_eq_false_iff_ne, Bool.not_eq_false', Int.not_le, Int.not_lt, Bool.not_not] at hc); (try (exfalso; first | contradiction | omega)))))
 | ((fail_if_success (with_reducible show AW _ _ _ _)); simp (maxSteps := 2000000) only [go_sem, reduceIte, reduceCtorEq, Nat.reduceAdd, Nat.reduceLT, Nat.reduceLeDiff, Nat.reduceEqDiff, Nat.reduceMul, Nat.reduceSub, Nat.reduceBEq, Tryz.f93, of_63_0, ty_3, of_63_1, sv])
 | ((with_reducible refine hK _ ?_); clear hK K))
  all_goals (first | (try refine Bool.eq_iff_iff.2 ?_); (simp only [Bool.and_eq_true, Bool.or_eq_true, Bool.not_eq_true', decide_eq_true_eq, decide_eq_false_iff_not, bne_iff_ne, beq_iff_eq, ne_eq, ge_iff_le, gt_iff_lt, cond_eq_ite, iff_self, eq_self]; first | done | omega) | skip)

set_option maxRecDepth 100000 in
set_option maxHeartbeats 4000000 in
theorem ends_p (a b : Int) : CallsP Tryz.prog 97 [.one (.g (.int .i64 (a))), .one (.g (.int .i64 (b)))] (.tup [.one (.g (.int .i64 (min a b))), .one (.g (.int .i64 (max a b)))]) := by
  refine CallsP_of Tryz.func97 rfl (by rw [Tryz.ntmps97]; simp) ?_
  simp only [Tryz.ntmps97, List.map_cons, List.map_nil, PT.tv, argEnv, Nat.zero_add, Nat.reduceAdd]
  repeat' (first
 | ((with_reducible show AW _ _ _ _); first
 | (with_reducible refine AW_seq_k fun K hK => ?_)
 | (with_reducible refine AW_skip ?_)
 | (with_reducible refine AW_exit ?_)
 | (with_reducible refine AW_ret ?_)
 | (with_reducible refine AW_condI ?_)
 | (with_reducible refine AW_block ?_)
 | ((with_reducible show AW _ (Code.region _ _ _) _ _); first
 | (with_reducible refine AW_regionP 0 [0, 1] ?_)
 | (with_reducible refine AW_regionP 1 [0, 1] ?_)))
 | ((first | (with_reducible refine And.intro ?_ ?_) | (with_reducible refine Need.mk ?_)); focus (first | exact True.intro | (with_reducible assumption) | omega | (refine ⟨?_, ?_⟩ <;> omega) | (intro _; first | exact True.intro | (with_reducible assumption) | omega) | (intros; (repeat' (first | exact True.intro | omega | (with_reducible assumption) | (with_reducible refine And.intro ?_ ?_))); done) | (simp (disch := omega) only [Bool.and_eq_true, Bool.or_eq_true, decide_eq_true_eq, bne_iff_ne, ne_eq] at *; first | done | omega | (intros; omega)) | (simp; done) | (simp; omega) | (simp +contextual; done) | (intro h; rw [h]; rfl) | (intros; simp_all; done)))
 | (with_reducible refine retK_n ?_)
 | (with_reducible refine retK_n' ?_)
 | (with_reducible refine retH_n rfl rfl rfl ?_)
 | (with_reducible refine retH_n' rfl rfl rfl ?_)
 | ((with_reducible show condN _ _ _ _ _ _); first
 | ((with_reducible refine condN_t ?_ ?_) <;> (intro hc; (try simp only [Bool.and_eq_true, Bool.or_eq_true, Bool.not_eq_true', Bool.and_eq_false_iff, Bool.or_eq_false_iff, decide_eq_true_eq, decide_eq_false_iff_not, bne_iff_ne, beq_iff_eq, reduceCtorEq, bne_eq_false_iff_eq, beq_eq_false_iff_ne, Bool.not_eq_false', Int.not_le, Int.not_lt, Bool.not_not] at hc); (try (exfalso; first | contradiction | omega)))))
 | ((fail_if_success (with_reducible show AW _ _ _ _)); simp (maxSteps := 2000000) only [go_sem, reduceIte, reduceCtorEq, Nat.reduceAdd, Nat.reduceLT, Nat.reduceLeDiff, Nat.reduceEqDiff, Nat.reduceMul, Nat.reduceSub, Nat.reduceBEq, Tryz.f97])
 | ((with_reducible refine hK _ ?_); clear hK K))
  all_goals (first | omega | skip)

set_option maxRecDepth 100000 in
set_option maxHeartbeats 4000000 in
theorem join_p (a b c d : Int) : CallsP Tryz.prog 82 [.agg [.g (.int .i64 (a)), .g (.int .i64 (b))], .agg [.g (.int .i64 (c)), .g (.int .i64 (d))]] (.tup [.agg [.g (.int .i64 (jL a b c d)), .g (.int .i64 (jH a b c d))], .one (.g (.int .i64 (jE a b c d)))]) := by
  refine CallsP_of Tryz.func82 rfl (by rw [Tryz.ntmps82]; simp) ?_
  simp only [Tryz.ntmps82, List.map_cons, List.map_nil, PT.tv, argEnv, Nat.zero_add, Nat.reduceAdd]
  repeat' (first
 | ((with_reducible show AW _ _ _ _); first
 | (with_reducible refine AW_seq_k fun K hK => ?_)
 | (with_reducible refine AW_skip ?_)
 | (with_reducible refine AW_exit ?_)
 | (with_reducible refine AW_ret ?_)
 | (with_reducible refine AW_condI ?_)
 | (with_reducible refine AW_block ?_)
 | ((with_reducible show AW _ (Code.region _ _ _) _ _); first
 | (with_reducible refine AW_regionP 0 [0, 1] ?_)
 | (with_reducible refine AW_regionP 1 [2, 3, 4] ?_)
 | (with_reducible refine AW_regionP 2 [4] ?_)
 | (with_reducible refine AW_regionP 3 [2, 3, 4] ?_)
 | (with_reducible refine AW_regionP 4 [2, 3, 4, 6] ?_)
 | (with_reducible refine AW_regionP 5 [4, 6, 9] ?_)))
 | ((first | (with_reducible refine And.intro ?_ ?_) | (with_reducible refine Need.mk ?_)); focus (first | exact True.intro | (with_reducible assumption) | omega | (refine ⟨?_, ?_⟩ <;> omega) | (intro _; first | exact True.intro | (with_reducible assumption) | omega) | (intros; (repeat' (first | exact True.intro | omega | (with_reducible assumption) | (with_reducible refine And.intro ?_ ?_))); done) | (simp (disch := omega) only [Bool.and_eq_true, Bool.or_eq_true, decide_eq_true_eq, bne_iff_ne, ne_eq] at *; first | done | omega | (intros; omega)) | (simp; done) | (simp; omega) | (simp +contextual; done) | (intro h; rw [h]; rfl) | (intros; simp_all; done)))
 | (with_reducible refine retK_n ?_)
 | (with_reducible refine retK_n' ?_)
 | (with_reducible refine retH_n rfl rfl rfl ?_)
 | (with_reducible refine retH_n' rfl rfl rfl ?_)
 | ((with_reducible show condN _ _ _ _ _ _); first
 | ((with_reducible refine condN_t ?_ ?_) <;> (intro hc; (try simp only [Bool.and_eq_true, Bool.or_eq_true, Bool.not_eq_true', Bool.and_eq_false_iff, Bool.or_eq_false_iff, decide_eq_true_eq, decide_eq_false_iff_not, bne_iff_ne, beq_iff_eq, reduceCtorEq, bne_eq_false_iff_eq, beq_eq_false_iff_ne, Bool.not_eq_false', Int.not_le, Int.not_lt, Bool.not_not] at hc); (try (exfalso; first | contradiction | omega)))))
 | ((with_reducible show callN _ _ _ _ _ _ _ _ _ _); first
 | (refine callN_q (k := 93) fnok_93 (sValid_p _ _) ?_ ?_)
 | (refine callN_q (k := 97) fnok_97 (ends_p _ _) ?_ ?_))
 | ((with_reducible show callGN _ _ _ _ _ _ _ _ _ _); first
 | (refine callGN_q (k := 93) fnok_93 (fun hg => sValid_p _ _) ?_ ?_))
 | ((fail_if_success (with_reducible show AW _ _ _ _)); simp (maxSteps := 2000000) only [go_sem, reduceIte, reduceCtorEq, Nat.reduceAdd, Nat.reduceLT, Nat.reduceLeDiff, Nat.reduceEqDiff, Nat.reduceMul, Nat.reduceSub, Nat.reduceBEq, Tryz.f82, zc_63, ty_63, fnok_93, fo_63, of_63_0, ty_3, fnok_97, of_63_1, pl_63_0, pl_63_1])
 | ((with_reducible refine hK _ ?_); clear hK K))
  all_goals (rcases jE_01 a b c d with ⟨h1, h2, h3, h4, h5⟩ | ⟨h1, h3, h4, h5⟩ <;> rw [h3, h4, h5] <;> simp_all [sv] <;> omega)

def wiB (s0 s1 t0 t1 : Int) : Bool := sv s0 s1 && sv t0 t1 && decide (t0 ≤ s0 ∧ s1 ≤ t1)
theorem mE_c (a b c d : Int) : ((sv a b = false ∨ sv c d = false) ∧ mE a b c d = 1 ∧ mL a b c d = 0 ∧ mH a b c d = 0) ∨ (sv a b = true ∧ sv c d = true ∧ min b d < max a c ∧ mE a b c d = 4 ∧ mL a b c d = 0 ∧ mH a b c d = 0) ∨ (sv a b = true ∧ sv c d = true ∧ max a c ≤ min b d ∧ mE a b c d = 0 ∧ mL a b c d = max a c ∧ mH a b c d = min b d) := by
  unfold mE mL mH
  cases h1 : sv a b <;> cases h2 : sv c d <;> simp
  by_cases k : min b d < max a c
  · left; simp [k]
  · right; simp [k]; omega
theorem vbox_c (a b c d : Int) : (vbox a b c d = true ∧ (-1000000 ≤ a ∧ a ≤ b ∧ b ≤ 1000000) ∧ (-1000000 ≤ c ∧ c ≤ d ∧ d ≤ 1000000) ∧ sv a b = true ∧ sv c d = true) ∨ (vbox a b c d = false ∧ ¬ ((-1000000 ≤ a ∧ a ≤ b ∧ b ≤ 1000000) ∧ (-1000000 ≤ c ∧ c ≤ d ∧ d ≤ 1000000))) := by
  cases h : vbox a b c d with
  | true => have := (vbox_d a b c d).1 h; exact Or.inl ⟨rfl, this.1, this.2, sv_t (by omega), sv_t (by omega)⟩
  | false => exact Or.inr ⟨rfl, of_decide_eq_false h⟩

set_option maxRecDepth 100000 in
set_option maxHeartbeats 4000000 in
theorem within_p (a b c d : Int) : CallsP Tryz.prog 62 [.agg [.g (.int .i64 (a)), .g (.int .i64 (b))], .agg [.g (.int .i64 (c)), .g (.int .i64 (d))]] (.tup [.one (.g (.bool (wiB a b c d))), .one (.g (.int .i64 (jE a b c d)))]) := by
  refine CallsP_of Tryz.func62 rfl (by rw [Tryz.ntmps62]; simp) ?_
  simp only [Tryz.ntmps62, List.map_cons, List.map_nil, PT.tv, argEnv, Nat.zero_add, Nat.reduceAdd]
  repeat' (first
 | ((with_reducible show AW _ _ _ _); first
 | (with_reducible refine AW_seq_k fun K hK => ?_)
 | (with_reducible refine AW_skip ?_)
 | (with_reducible refine AW_exit ?_)
 | (with_reducible refine AW_ret ?_)
 | (with_reducible refine AW_condI ?_)
 | (with_reducible refine AW_block ?_)
 | ((with_reducible show AW _ (Code.region _ _ _) _ _); first
 | (with_reducible refine AW_regionP 0 [0, 1] ?_)
 | (with_reducible refine AW_regionP 1 [2, 3] ?_)
 | (with_reducible refine AW_regionP 2 [3, 6, 7] ?_)))
 | ((first | (with_reducible refine And.intro ?_ ?_) | (with_reducible refine Need.mk ?_)); focus (first | exact True.intro | (with_reducible assumption) | omega | (refine ⟨?_, ?_⟩ <;> omega) | (intro _; first | exact True.intro | (with_reducible assumption) | omega) | (intros; (repeat' (first | exact True.intro | omega | (with_reducible assumption) | (with_reducible refine And.intro ?_ ?_))); done) | (simp (disch := omega) only [Bool.and_eq_true, Bool.or_eq_true, decide_eq_true_eq, bne_iff_ne, ne_eq] at *; first | done | omega | (intros; omega)) | (simp; done) | (simp; omega) | (simp +contextual; done) | (intro h; rw [h]; rfl) | (intros; simp_all; done)))
 | (with_reducible refine retK_n ?_)
 | (with_reducible refine retK_n' ?_)
 | (with_reducible refine retH_n rfl rfl rfl ?_)
 | (with_reducible refine retH_n' rfl rfl rfl ?_)
 | ((with_reducible show condN _ _ _ _ _ _); first
 | ((with_reducible refine condN_t ?_ ?_) <;> (intro hc; (try simp only [Bool.and_eq_true, Bool.or_eq_true, Bool.not_eq_true', Bool.and_eq_false_iff, Bool.or_eq_false_iff, decide_eq_true_eq, decide_eq_false_iff_not, bne_iff_ne, beq_iff_eq, reduceCtorEq, bne_eq_false_iff_eq, beq_eq_false_iff_ne, Bool.not_eq_false', Int.not_le, Int.not_lt, Bool.not_not] at hc); (try (exfalso; first | contradiction | omega)))))
 | ((with_reducible show callN _ _ _ _ _ _ _ _ _ _); first
 | (refine callN_q (k := 82) fnok_82 (join_p _ _ _ _) ?_ ?_))
 | ((fail_if_success (with_reducible show AW _ _ _ _)); simp (maxSteps := 2000000) only [go_sem, reduceIte, reduceCtorEq, Nat.reduceAdd, Nat.reduceLT, Nat.reduceLeDiff, Nat.reduceEqDiff, Nat.reduceMul, Nat.reduceSub, Nat.reduceBEq, Tryz.f62, ty_63, fnok_82, zc_63, bo_63, eq_63])
 | ((with_reducible refine hK _ ?_); clear hK K))
  all_goals
    rcases jE_01 a b c d with ⟨h1, h2, h3, h4, h5⟩ | ⟨h1, h3, h4, h5⟩
    · rw [h3, h4, h5]; unfold wiB; rw [h1, h2]; refine Bool.eq_iff_iff.2 ?_; simp; omega
    · rw [h3]; unfold wiB; rcases h1 with h1 | h1 <;> simp [h1]

set_option maxRecDepth 100000 in
set_option maxHeartbeats 4000000 in
theorem vbox_p (a b c d : Int) : CallsP Tryz.prog 38 [.agg [.g (.int .i64 (a)), .g (.int .i64 (b)), .g (.int .i64 (c)), .g (.int .i64 (d))]] (.t (.one (.g (.bool (vbox a b c d))))) := by
  refine CallsP_of Tryz.func38 rfl (by rw [Tryz.ntmps38]; simp) ?_
  simp only [Tryz.ntmps38, List.map_cons, List.map_nil, PT.tv, argEnv, Nat.zero_add, Nat.reduceAdd]
  repeat' (first
 | ((with_reducible show AW _ _ _ _); first
 | (with_reducible refine AW_seq_k fun K hK => ?_)
 | (with_reducible refine AW_skip ?_)
 | (with_reducible refine AW_exit ?_)
 | (with_reducible refine AW_ret ?_)
 | (with_reducible refine AW_condI ?_)
 | (with_reducible refine AW_block ?_)
 | ((with_reducible show AW _ (Code.region _ _ _) _ _); first
 | (with_reducible refine AW_regionP 0 [0] ?_)
 | (with_reducible refine AW_regionP 1 [1] ?_)
 | (with_reducible refine AW_regionP 2 [1, 3] ?_)
 | (with_reducible refine AW_regionP 3 [1, 3, 4, 5] ?_)
 | (with_reducible refine AW_regionP 4 [4, 5, 6, 7] ?_)))
 | ((first | (with_reducible refine And.intro ?_ ?_) | (with_reducible refine Need.mk ?_)); focus (first | exact True.intro | (with_reducible assumption) | omega | (refine ⟨?_, ?_⟩ <;> omega) | (intro _; first | exact True.intro | (with_reducible assumption) | omega) | (intros; (repeat' (first | exact True.intro | omega | (with_reducible assumption) | (with_reducible refine And.intro ?_ ?_))); done) | (simp (disch := omega) only [Bool.and_eq_true, Bool.or_eq_true, decide_eq_true_eq, bne_iff_ne, ne_eq] at *; first | done | omega | (intros; omega)) | (simp; done) | (simp; omega) | (simp +contextual; done) | (intro h; rw [h]; rfl) | (intros; simp_all; done)))
 | (with_reducible refine retK_n ?_)
 | (with_reducible refine retK_n' ?_)
 | (with_reducible refine retH_n rfl rfl rfl ?_)
 | (with_reducible refine retH_n' rfl rfl rfl ?_)
 | ((with_reducible show condN _ _ _ _ _ _); first
 | ((with_reducible refine condN_t ?_ ?_) <;> (intro hc; (try simp only [Bool.and_eq_true, Bool.or_eq_true, Bool.not_eq_true', Bool.and_eq_false_iff, Bool.or_eq_false_iff, decide_eq_true_eq, decide_eq_false_iff_not, bne_iff_ne, beq_iff_eq, reduceCtorEq, bne_eq_false_iff_eq, beq_eq_false_iff_ne, Bool.not_eq_false', Int.not_le, Int.not_lt, Bool.not_not] at hc); (skip); (try (exfalso; first | contradiction | omega)))))
 | ((with_reducible show callN _ _ _ _ _ _ _ _ _ _); first
 | (refine callN_q (k := 62) fnok_62 (within_p _ _ _ _) ?_ ?_))
 | ((fail_if_success (with_reducible show AW _ _ _ _)); simp (maxSteps := 2000000) only [go_sem, reduceIte, reduceCtorEq, Nat.reduceAdd, Nat.reduceLT, Nat.reduceLeDiff, Nat.reduceEqDiff, Nat.reduceMul, Nat.reduceSub, Nat.reduceBEq, Tryz.f38, zc_63, fo_63, pl_63_0, pl_63_1, ty_63, of_65_0, fnok_62, of_65_1])
 | ((with_reducible refine hK _ ?_); clear hK K))
  all_goals
    unfold wiB; rw [sv_M]
    rcases jE_01 a b (-1000000) 1000000 with ⟨h1, h2, h3, h4, h5⟩ | ⟨h1, h3, h4, h5⟩
    · rcases jE_01 c d (-1000000) 1000000 with ⟨k1, k2, k3, k4, k5⟩ | ⟨k1, k3, k4, k5⟩
      · have e1 := of_decide_eq_true h1
        have e2 := of_decide_eq_true k1
        rw [h3, k3, h1, k1]; refine Bool.eq_iff_iff.2 ?_; rw [vbox_d]; simp; omega
      · rcases vbox_c a b c d with ⟨v, v1, v2, v3, v4⟩ | ⟨v, v1⟩
        · rw [v4, sv_M] at k1; simp at k1
        · rw [v, k3]; simp
    · rcases vbox_c a b c d with ⟨v, v1, v2, v3, v4⟩ | ⟨v, v1⟩
      · rw [v3, sv_M] at h1; simp at h1
      · rw [v, h3]; simp

set_option maxRecDepth 100000 in
set_option maxHeartbeats 4000000 in
theorem meet_p (a b c d : Int) : CallsP Tryz.prog 75 [.agg [.g (.int .i64 (a)), .g (.int .i64 (b))], .agg [.g (.int .i64 (c)), .g (.int .i64 (d))]] (.tup [.agg [.g (.int .i64 (mL a b c d)), .g (.int .i64 (mH a b c d))], .one (.g (.int .i64 (mE a b c d)))]) := by
  refine CallsP_of Tryz.func75 rfl (by rw [Tryz.ntmps75]; simp) ?_
  simp only [Tryz.ntmps75, List.map_cons, List.map_nil, PT.tv, argEnv, Nat.zero_add, Nat.reduceAdd]
  repeat' (first
 | ((with_reducible show AW _ _ _ _); first
 | (with_reducible refine AW_seq_k fun K hK => ?_)
 | (with_reducible refine AW_skip ?_)
 | (with_reducible refine AW_exit ?_)
 | (with_reducible refine AW_ret ?_)
 | (with_reducible refine AW_condI ?_)
 | (with_reducible refine AW_block ?_)
 | ((with_reducible show AW _ (Code.region _ _ _) _ _); first
 | (with_reducible refine AW_regionP 0 [0, 1] ?_)
 | (with_reducible refine AW_regionP 1 [2, 3, 4] ?_)
 | (with_reducible refine AW_regionP 2 [4] ?_)
 | (with_reducible refine AW_regionP 3 [2, 3, 4] ?_)
 | (with_reducible refine AW_regionP 4 [4, 6] ?_)
 | (with_reducible refine AW_regionP 5 [4] ?_)
 | (with_reducible refine AW_regionP 6 [4, 6] ?_)))
 | ((first | (with_reducible refine And.intro ?_ ?_) | (with_reducible refine Need.mk ?_)); focus (first | exact True.intro | (with_reducible assumption) | omega | (refine ⟨?_, ?_⟩ <;> omega) | (intro _; first | exact True.intro | (with_reducible assumption) | omega) | (intros; (repeat' (first | exact True.intro | omega | (with_reducible assumption) | (with_reducible refine And.intro ?_ ?_))); done) | (simp (disch := omega) only [Bool.and_eq_true, Bool.or_eq_true, decide_eq_true_eq, bne_iff_ne, ne_eq] at *; first | done | omega | (intros; omega)) | (simp; done) | (simp; omega) | (simp +contextual; done) | (intro h; rw [h]; rfl) | (intros; simp_all; done)))
 | (with_reducible refine retK_n ?_)
 | (with_reducible refine retK_n' ?_)
 | (with_reducible refine retH_n rfl rfl rfl ?_)
 | (with_reducible refine retH_n' rfl rfl rfl ?_)
 | ((with_reducible show condN _ _ _ _ _ _); first
 | ((with_reducible refine condN_t ?_ ?_) <;> (intro hc; (try simp only [Bool.and_eq_true, Bool.or_eq_true, Bool.not_eq_true', Bool.and_eq_false_iff, Bool.or_eq_false_iff, decide_eq_true_eq, decide_eq_false_iff_not, bne_iff_ne, beq_iff_eq, reduceCtorEq, bne_eq_false_iff_eq, beq_eq_false_iff_ne, Bool.not_eq_false', Int.not_le, Int.not_lt, Bool.not_not] at hc); (skip); (try (exfalso; first | contradiction | omega)))))
 | ((with_reducible show callN _ _ _ _ _ _ _ _ _ _); first
 | (refine callN_q (k := 93) fnok_93 (sValid_p _ _) ?_ ?_))
 | ((with_reducible show callGN _ _ _ _ _ _ _ _ _ _); first
 | (refine callGN_q (k := 93) fnok_93 (fun hg => sValid_p _ _) ?_ ?_))
 | ((fail_if_success (with_reducible show AW _ _ _ _)); simp (maxSteps := 2000000) only [go_sem, reduceIte, reduceCtorEq, Nat.reduceAdd, Nat.reduceLT, Nat.reduceLeDiff, Nat.reduceEqDiff, Nat.reduceMul, Nat.reduceSub, Nat.reduceBEq, Tryz.f75, zc_63, ty_63, fnok_93, fo_63, of_63_0, ty_3, of_63_1, pl_63_0, pl_63_1])
 | ((with_reducible refine hK _ ?_); clear hK K))
  all_goals (rcases mE_c a b c d with ⟨h1, h3, h4, h5⟩ | ⟨h1, h2, h6, h3, h4, h5⟩ | ⟨h1, h2, h6, h3, h4, h5⟩ <;> rw [h3, h4, h5] <;> simp_all <;> omega)

theorem mbE_c (a b c d a' b' c' d' : Int) : ((vbox a b c d = false ∨ vbox a' b' c' d' = false) ∧ mbE a b c d a' b' c' d' = 1) ∨ (vbox a b c d = true ∧ vbox a' b' c' d' = true ∧ (sv a b = true ∧ sv a' b' = true ∧ sv c d = true ∧ sv c' d' = true) ∧ ((min b b' < max a a' ∨ min d d' < max c c') ∧ mbE a b c d a' b' c' d' = 4 ∨ (max a a' ≤ min b b' ∧ max c c' ≤ min d d') ∧ mbE a b c d a' b' c' d' = 0)) := by
  unfold mbE mbV mbN
  rcases vbox_c a b c d with ⟨v, v1, v2, v3, v4⟩ | ⟨v, v1⟩
  · rcases vbox_c a' b' c' d' with ⟨u, u1, u2, u3, u4⟩ | ⟨u, u1⟩
    · rw [v, u]
      by_cases k : min b b' < max a a' ∨ min d d' < max c c'
      · exact Or.inr ⟨rfl, rfl, ⟨v3, u3, v4, u4⟩, Or.inl ⟨k, by rw [decide_eq_true k]; rfl⟩⟩
      · exact Or.inr ⟨rfl, rfl, ⟨v3, u3, v4, u4⟩, Or.inr ⟨by omega, by rw [decide_eq_false k]; rfl⟩⟩
    · rw [v, u]; exact Or.inl ⟨Or.inr rfl, rfl⟩
  · rw [v]; exact Or.inl ⟨Or.inl rfl, by simp⟩

set_option maxRecDepth 100000 in
set_option maxHeartbeats 4000000 in
theorem boxes_p (a b c d a' b' c' d' : Int) : CallsP Tryz.prog 74 [.agg [.g (.int .i64 (a)), .g (.int .i64 (b)), .g (.int .i64 (c)), .g (.int .i64 (d))], .agg [.g (.int .i64 (a')), .g (.int .i64 (b')), .g (.int .i64 (c')), .g (.int .i64 (d'))], .one (.g (.func (.func 75) #[] #[]))] (.tup [.agg [.g (.int .i64 (mbx (mbE a b c d a' b' c' d') (max a a'))), .g (.int .i64 (mbx (mbE a b c d a' b' c' d') (min b b'))), .g (.int .i64 (mbx (mbE a b c d a' b' c' d') (max c c'))), .g (.int .i64 (mbx (mbE a b c d a' b' c' d') (min d d')))], .one (.g (.int .i64 (mbE a b c d a' b' c' d')))]) := by
  refine CallsP_of Tryz.func74 rfl (by rw [Tryz.ntmps74]; simp) ?_
  simp only [Tryz.ntmps74, List.map_cons, List.map_nil, PT.tv, argEnv, Nat.zero_add, Nat.reduceAdd]
  repeat' (first
 | ((with_reducible show AW _ _ _ _); first
 | (with_reducible refine AW_seq_k fun K hK => ?_)
 | (with_reducible refine AW_skip ?_)
 | (with_reducible refine AW_exit ?_)
 | (with_reducible refine AW_ret ?_)
 | (with_reducible refine AW_condI ?_)
 | (with_reducible refine AW_block ?_)
 | ((with_reducible show AW _ (Code.region _ _ _) _ _); first
 | (with_reducible refine AW_regionP 0 [0, 1, 2] ?_)
 | (with_reducible refine AW_regionP 1 [2, 3, 4, 6] ?_)
 | (with_reducible refine AW_regionP 2 [6] ?_)
 | (with_reducible refine AW_regionP 3 [2, 3, 4, 6] ?_)
 | (with_reducible refine AW_regionP 4 [2, 3, 4, 6, 8, 9] ?_)
 | (with_reducible refine AW_regionP 5 [6, 8, 9, 10, 11] ?_)
 | (with_reducible refine AW_regionP 6 [6, 8, 9, 10] ?_)
 | (with_reducible refine AW_regionP 7 [6, 9] ?_)
 | (with_reducible refine AW_regionP 8 [6, 8, 10] ?_)))
 | ((first | (with_reducible refine And.intro ?_ ?_) | (with_reducible refine Need.mk ?_)); focus (first | exact True.intro | (with_reducible assumption) | omega | (refine ⟨?_, ?_⟩ <;> omega) | (intro _; first | exact True.intro | (with_reducible assumption) | omega) | (intros; (repeat' (first | exact True.intro | omega | (with_reducible assumption) | (with_reducible refine And.intro ?_ ?_))); done) | (simp (disch := omega) only [Bool.and_eq_true, Bool.or_eq_true, decide_eq_true_eq, bne_iff_ne, ne_eq] at *; first | done | omega | (intros; omega)) | (simp; done) | (simp; omega) | (simp +contextual; done) | (intro h; rw [h]; rfl) | (intros; simp_all; done)))
 | (with_reducible refine retK_n ?_)
 | (with_reducible refine retK_n' ?_)
 | (with_reducible refine retH_n rfl rfl rfl ?_)
 | (with_reducible refine retH_n' rfl rfl rfl ?_)
 | ((with_reducible show condN _ _ _ _ _ _); first
 | ((with_reducible refine condN_t ?_ ?_) <;> (intro hc; (try simp only [Bool.and_eq_true, Bool.or_eq_true, Bool.not_eq_true', Bool.and_eq_false_iff, Bool.or_eq_false_iff, decide_eq_true_eq, decide_eq_false_iff_not, bne_iff_ne, beq_iff_eq, reduceCtorEq, bne_eq_false_iff_eq, beq_eq_false_iff_ne, Bool.not_eq_false', Int.not_le, Int.not_lt, Bool.not_not] at hc); (skip); (try (exfalso; first | contradiction | omega)))))
 | ((with_reducible show callN _ _ _ _ _ _ _ _ _ _); first
 | (refine callN_q (k := 38) fnok_38 (vbox_p _ _ _ _) ?_ ?_)
 | (refine callN_q (k := 75) fnok_75 (meet_p _ _ _ _) ?_ ?_))
 | ((with_reducible show callGN _ _ _ _ _ _ _ _ _ _); first
 | (refine callGN_q (k := 38) fnok_38 (fun hg => vbox_p _ _ _ _) ?_ ?_)
 | (refine callGN_q (k := 75) fnok_75 (fun hg => meet_p _ _ _ _) ?_ ?_))
 | ((with_reducible show callDN _ _ _ _ _ _ _ _ _ _ _ _ _); first
 | (refine callDN_q (k := 75) fnok_75 (meet_p _ _ _ _) ?_ ?_))
 | ((with_reducible show callDGN _ _ _ _ _ _ _ _ _ _ _ _ _); first
 | (refine callDGN_q (k := 75) fnok_75 (fun hg => meet_p _ _ _ _) ?_ ?_))
 | ((fail_if_success (with_reducible show AW _ _ _ _)); simp (maxSteps := 2000000) only [go_sem, reduceIte, reduceCtorEq, Nat.reduceAdd, Nat.reduceLT, Nat.reduceLeDiff, Nat.reduceEqDiff, Nat.reduceMul, Nat.reduceSub, Nat.reduceBEq, Tryz.f74, zc_65, ty_65, fnok_38, fo_65, of_65_0, ty_63, zc_63, of_65_1, pl_65_0, pl_65_1])
 | ((with_reducible refine hK _ ?_); clear hK K))
  all_goals
    rcases mbE_c a b c d a' b' c' d' with ⟨h1, h2⟩ | ⟨h1, h2, ⟨s1, s2, s3, s4⟩, ⟨h3, h4⟩ | ⟨h3, h4⟩⟩
    · first | (rw [h2]; exact ⟨⟨rfl, rfl, rfl, rfl⟩, rfl⟩) | (exfalso; rcases h1 with h1 | h1 <;> simp_all)
    all_goals
      rcases mE_c a b a' b' with ⟨k1, k3, k4, k5⟩ | ⟨k1, k2, k6, k3, k4, k5⟩ | ⟨k1, k2, k6, k3, k4, k5⟩
      · exfalso; rcases k1 with k1 | k1 <;> simp_all
      all_goals
        rcases mE_c c d c' d' with ⟨l1, l3, l4, l5⟩ | ⟨l1, l2, l6, l3, l4, l5⟩ | ⟨l1, l2, l6, l3, l4, l5⟩
        · exfalso; rcases l1 with l1 | l1 <;> simp_all
        all_goals (first | (exfalso; omega) | (exfalso; simp_all; done) | (rw [h4]; simp only [k3, k4, k5, l3, l4, l5, mbx]; first | exact ⟨⟨rfl, rfl, rfl, rfl⟩, rfl⟩ | (simp; done) | omega) | (simp_all [mbx]; done))

set_option maxRecDepth 100000 in
set_option maxHeartbeats 4000000 in
theorem meetbox_p (a b c d a' b' c' d' : Int) : CallsP Tryz.prog 54 [.agg [.g (.int .i64 (a)), .g (.int .i64 (b)), .g (.int .i64 (c)), .g (.int .i64 (d))], .agg [.g (.int .i64 (a')), .g (.int .i64 (b')), .g (.int .i64 (c')), .g (.int .i64 (d'))]] (.tup [.agg [.g (.int .i64 (mbx (mbE a b c d a' b' c' d') (max a a'))), .g (.int .i64 (mbx (mbE a b c d a' b' c' d') (min b b'))), .g (.int .i64 (mbx (mbE a b c d a' b' c' d') (max c c'))), .g (.int .i64 (mbx (mbE a b c d a' b' c' d') (min d d')))], .one (.g (.int .i64 (mbE a b c d a' b' c' d')))]) := by
  refine CallsP_of Tryz.func54 rfl (by rw [Tryz.ntmps54]; simp) ?_
  simp only [Tryz.ntmps54, List.map_cons, List.map_nil, PT.tv, argEnv, Nat.zero_add, Nat.reduceAdd]
  repeat' (first
 | ((with_reducible show AW _ _ _ _); first
 | (with_reducible refine AW_seq_k fun K hK => ?_)
 | (with_reducible refine AW_skip ?_)
 | (with_reducible refine AW_exit ?_)
 | (with_reducible refine AW_ret ?_)
 | (with_reducible refine AW_condI ?_)
 | (with_reducible refine AW_block ?_)
 | ((with_reducible show AW _ (Code.region _ _ _) _ _); first
 | (with_reducible refine AW_regionP 0 [0, 1] ?_)
 | (with_reducible refine AW_regionP 1 [2, 3, 4] ?_)))
 | ((first | (with_reducible refine And.intro ?_ ?_) | (with_reducible refine Need.mk ?_)); focus (first | exact True.intro | (with_reducible assumption) | omega | (refine ⟨?_, ?_⟩ <;> omega) | (intro _; first | exact True.intro | (with_reducible assumption) | omega) | (intros; (repeat' (first | exact True.intro | omega | (with_reducible assumption) | (with_reducible refine And.intro ?_ ?_))); done) | (simp (disch := omega) only [Bool.and_eq_true, Bool.or_eq_true, decide_eq_true_eq, bne_iff_ne, ne_eq] at *; first | done | omega | (intros; omega)) | (simp; done) | (simp; omega) | (simp +contextual; done) | (intro h; rw [h]; rfl) | (intros; simp_all; done)))
 | (with_reducible refine retK_n ?_)
 | (with_reducible refine retK_n' ?_)
 | (with_reducible refine retH_n rfl rfl rfl ?_)
 | (with_reducible refine retH_n' rfl rfl rfl ?_)
 | ((with_reducible show condN _ _ _ _ _ _); first
 | ((with_reducible refine condN_t ?_ ?_) <;> (intro hc; (try simp only [Bool.and_eq_true, Bool.or_eq_true, Bool.not_eq_true', Bool.and_eq_false_iff, Bool.or_eq_false_iff, decide_eq_true_eq, decide_eq_false_iff_not, bne_iff_ne, beq_iff_eq, reduceCtorEq, bne_eq_false_iff_eq, beq_eq_false_iff_ne, Bool.not_eq_false', Int.not_le, Int.not_lt, Bool.not_not] at hc); (try (exfalso; first | contradiction | omega)))))
 | ((with_reducible show callN _ _ _ _ _ _ _ _ _ _); first
 | (refine callN_q (k := 74) fnok_74 (boxes_p _ _ _ _ _ _ _ _) ?_ ?_))
 | ((fail_if_success (with_reducible show AW _ _ _ _)); simp (maxSteps := 2000000) only [go_sem, reduceIte, reduceCtorEq, Nat.reduceAdd, Nat.reduceLT, Nat.reduceLeDiff, Nat.reduceEqDiff, Nat.reduceMul, Nat.reduceSub, Nat.reduceBEq, Tryz.f54, zc_65, ty_65, fnok_74])
 | ((with_reducible refine hK _ ?_); clear hK K))

set_option maxRecDepth 100000 in
set_option maxHeartbeats 4000000 in
theorem inside_p (a b c d a' b' c' d' : Int) : CallsP Tryz.prog 31 [.agg [.g (.int .i64 (a)), .g (.int .i64 (b)), .g (.int .i64 (c)), .g (.int .i64 (d))], .agg [.g (.int .i64 (a')), .g (.int .i64 (b')), .g (.int .i64 (c')), .g (.int .i64 (d'))]] (.t (.one (.g (.bool (insB a b c d a' b' c' d'))))) := by
  refine CallsP_of Tryz.func31 rfl (by rw [Tryz.ntmps31]; simp) ?_
  simp only [Tryz.ntmps31, List.map_cons, List.map_nil, PT.tv, argEnv, Nat.zero_add, Nat.reduceAdd]
  repeat' (first
 | ((with_reducible show AW _ _ _ _); first
 | (with_reducible refine AW_seq_k fun K hK => ?_)
 | (with_reducible refine AW_skip ?_)
 | (with_reducible refine AW_exit ?_)
 | (with_reducible refine AW_ret ?_)
 | (with_reducible refine AW_condI ?_)
 | (with_reducible refine AW_block ?_)
 | ((with_reducible show AW _ (Code.region _ _ _) _ _); first
 | (with_reducible refine AW_regionP 0 [0, 1] ?_)
 | (with_reducible refine AW_regionP 1 [2, 3] ?_)
 | (with_reducible refine AW_regionP 2 [5, 6] ?_)))
 | ((first | (with_reducible refine And.intro ?_ ?_) | (with_reducible refine Need.mk ?_)); focus (first | exact True.intro | (with_reducible assumption) | omega | (refine ⟨?_, ?_⟩ <;> omega) | (intro _; first | exact True.intro | (with_reducible assumption) | omega) | (intros; (repeat' (first | exact True.intro | omega | (with_reducible assumption) | (with_reducible refine And.intro ?_ ?_))); done) | (simp (disch := omega) only [Bool.and_eq_true, Bool.or_eq_true, decide_eq_true_eq, bne_iff_ne, ne_eq] at *; first | done | omega | (intros; omega)) | (simp; done) | (simp; omega) | (simp +contextual; done) | (intro h; rw [h]; rfl) | (intros; simp_all; done)))
 | (with_reducible refine retK_n ?_)
 | (with_reducible refine retK_n' ?_)
 | (with_reducible refine retH_n rfl rfl rfl ?_)
 | (with_reducible refine retH_n' rfl rfl rfl ?_)
 | ((with_reducible show condN _ _ _ _ _ _); first
 | ((with_reducible refine condN_t ?_ ?_) <;> (intro hc; (try simp only [Bool.and_eq_true, Bool.or_eq_true, Bool.not_eq_true', Bool.and_eq_false_iff, Bool.or_eq_false_iff, decide_eq_true_eq, decide_eq_false_iff_not, bne_iff_ne, beq_iff_eq, reduceCtorEq, bne_eq_false_iff_eq, beq_eq_false_iff_ne, Bool.not_eq_false', Int.not_le, Int.not_lt, Bool.not_not] at hc); (skip); (try (exfalso; first | contradiction | omega)))))
 | ((with_reducible show callN _ _ _ _ _ _ _ _ _ _); first
 | (refine callN_q (k := 54) fnok_54 (meetbox_p _ _ _ _ _ _ _ _) ?_ ?_))
 | ((fail_if_success (with_reducible show AW _ _ _ _)); simp (maxSteps := 2000000) only [go_sem, reduceIte, reduceCtorEq, Nat.reduceAdd, Nat.reduceLT, Nat.reduceLeDiff, Nat.reduceEqDiff, Nat.reduceMul, Nat.reduceSub, Nat.reduceBEq, Tryz.f31, ty_65, fnok_54, zc_65, of_65_0, of_63_0, ty_3, of_63_1, of_65_1])
 | ((with_reducible refine hK _ ?_); clear hK K))
  all_goals
    unfold insB; rcases mbE_c a b c d a' b' c' d' with ⟨h1, h2⟩ | ⟨h1, h2, ⟨s1, s2, s3, s4⟩, ⟨h3, h4⟩ | ⟨h3, h4⟩⟩
    · rw [h2]; rcases h1 with h1 | h1 <;> simp [h1]
    · rw [h4, h1, h2]; simp; omega
    · rw [h4, h1, h2]; simp [mbx]

set_option maxRecDepth 100000 in
set_option maxHeartbeats 4000000 in
theorem sound_p (o a b c d : Int) : CallsP Tryz.prog 28 [.agg [.g (.int .i64 (o)), .g (.int .i64 (a)), .g (.int .i64 (b)), .g (.int .i64 (c)), .g (.int .i64 (d))]] (.t (.one (.g (.bool (soundB o a b c d))))) := by
  refine CallsP_of Tryz.func28 rfl (by rw [Tryz.ntmps28]; simp) ?_
  simp only [Tryz.ntmps28, List.map_cons, List.map_nil, PT.tv, argEnv, Nat.zero_add, Nat.reduceAdd]
  repeat' (first
 | ((with_reducible show AW _ _ _ _); first
 | (with_reducible refine AW_seq_k fun K hK => ?_)
 | (with_reducible refine AW_skip ?_)
 | (with_reducible refine AW_exit ?_)
 | (with_reducible refine AW_ret ?_)
 | (with_reducible refine AW_condI ?_)
 | (with_reducible refine AW_block ?_)
 | ((with_reducible show AW _ (Code.region _ _ _) _ _); first
 | (with_reducible refine AW_regionP 0 [0] ?_)
 | (with_reducible refine AW_regionP 1 [1] ?_)))
 | ((first | (with_reducible refine And.intro ?_ ?_) | (with_reducible refine Need.mk ?_)); focus (first | exact True.intro | (with_reducible assumption) | omega | (refine ⟨?_, ?_⟩ <;> omega) | (intro _; first | exact True.intro | (with_reducible assumption) | omega) | (intros; (repeat' (first | exact True.intro | omega | (with_reducible assumption) | (with_reducible refine And.intro ?_ ?_))); done) | (simp (disch := omega) only [Bool.and_eq_true, Bool.or_eq_true, decide_eq_true_eq, bne_iff_ne, ne_eq] at *; first | done | omega | (intros; omega)) | (simp; done) | (simp; omega) | (simp +contextual; done) | (intro h; rw [h]; rfl) | (intros; simp_all; done)))
 | (with_reducible refine retK_n ?_)
 | (with_reducible refine retK_n' ?_)
 | (with_reducible refine retH_n rfl rfl rfl ?_)
 | (with_reducible refine retH_n' rfl rfl rfl ?_)
 | ((with_reducible show condN _ _ _ _ _ _); first
 | ((with_reducible refine condN_t ?_ ?_) <;> (intro hc; (try simp only [Bool.and_eq_true, Bool.or_eq_true, Bool.not_eq_true', Bool.and_eq_false_iff, Bool.or_eq_false_iff, decide_eq_true_eq, decide_eq_false_iff_not, bne_iff_ne, beq_iff_eq, reduceCtorEq, bne_eq_false_iff_eq, beq_eq_false_iff_ne, Bool.not_eq_false', Int.not_le, Int.not_lt, Bool.not_not] at hc); (skip); (try (exfalso; first | contradiction | omega)))))
 | ((with_reducible show callN _ _ _ _ _ _ _ _ _ _); first
 | (refine callN_q (k := 57) fnok_57 (office_p _) ?_ ?_))
 | ((with_reducible show callGN _ _ _ _ _ _ _ _ _ _); first
 | (refine callGN_q (k := 38) fnok_38 (fun hg => vbox_p _ _ _ _) ?_ ?_))
 | ((fail_if_success (with_reducible show AW _ _ _ _)); simp (maxSteps := 2000000) only [go_sem, reduceIte, reduceCtorEq, Nat.reduceAdd, Nat.reduceLT, Nat.reduceLeDiff, Nat.reduceEqDiff, Nat.reduceMul, Nat.reduceSub, Nat.reduceBEq, Tryz.f28, of_67_0, ty_3, fnok_57, of_67_1, ty_65, fnok_38, of_65_0, of_63_0, of_63_1, of_65_1])
 | ((with_reducible refine hK _ ?_); clear hK K))
  all_goals (unfold soundB offB vbox; (try refine Bool.eq_iff_iff.2 ?_); (simp only [Bool.and_eq_true, Bool.or_eq_true, Bool.not_eq_true', decide_eq_true_eq, decide_eq_false_iff_not, bne_iff_ne, beq_iff_eq, ne_eq, ge_iff_le, gt_iff_lt, cond_eq_ite, iff_self, eq_self]; first | done | omega))

set_option maxRecDepth 100000 in
set_option maxHeartbeats 4000000 in
theorem has_p (a b c d x y : Int) : CallsP Tryz.prog 63 [.agg [.g (.int .i64 (a)), .g (.int .i64 (b)), .g (.int .i64 (c)), .g (.int .i64 (d))], .agg [.g (.int .i64 (x)), .g (.int .i64 (y))]] (.t (.one (.g (.bool (hasB a b c d x y))))) := by
  refine CallsP_of Tryz.func63 rfl (by rw [Tryz.ntmps63]; simp) ?_
  simp only [Tryz.ntmps63, List.map_cons, List.map_nil, PT.tv, argEnv, Nat.zero_add, Nat.reduceAdd]
  repeat' (first
 | ((with_reducible show AW _ _ _ _); first
 | (with_reducible refine AW_seq_k fun K hK => ?_)
 | (with_reducible refine AW_skip ?_)
 | (with_reducible refine AW_exit ?_)
 | (with_reducible refine AW_ret ?_)
 | (with_reducible refine AW_condI ?_)
 | (with_reducible refine AW_block ?_)
 | ((with_reducible show AW _ (Code.region _ _ _) _ _); first
 | (with_reducible refine AW_regionP 0 [0, 1] ?_)
 | (with_reducible refine AW_regionP 1 [2, 3] ?_)))
 | ((first | (with_reducible refine And.intro ?_ ?_) | (with_reducible refine Need.mk ?_)); focus (first | exact True.intro | (with_reducible assumption) | omega | (refine ⟨?_, ?_⟩ <;> omega) | (intro _; first | exact True.intro | (with_reducible assumption) | omega) | (intros; (repeat' (first | exact True.intro | omega | (with_reducible assumption) | (with_reducible refine And.intro ?_ ?_))); done) | (simp (disch := omega) only [Bool.and_eq_true, Bool.or_eq_true, decide_eq_true_eq, bne_iff_ne, ne_eq] at *; first | done | omega | (intros; omega)) | (simp; done) | (simp; omega) | (simp +contextual; done) | (intro h; rw [h]; rfl) | (intros; simp_all; done)))
 | (with_reducible refine retK_n ?_)
 | (with_reducible refine retK_n' ?_)
 | (with_reducible refine retH_n rfl rfl rfl ?_)
 | (with_reducible refine retH_n' rfl rfl rfl ?_)
 | ((with_reducible show condN _ _ _ _ _ _); first
 | ((with_reducible refine condN_t ?_ ?_) <;> (intro hc; (try simp only [Bool.and_eq_true, Bool.or_eq_true, Bool.not_eq_true', Bool.and_eq_false_iff, Bool.or_eq_false_iff, decide_eq_true_eq, decide_eq_false_iff_not, bne_iff_ne, beq_iff_eq, reduceCtorEq, bne_eq_false_iff_eq, beq_eq_false_iff_ne, Bool.not_eq_false', Int.not_le, Int.not_lt, Bool.not_not] at hc); (try (exfalso; first | contradiction | omega)))))
 | ((fail_if_success (with_reducible show AW _ _ _ _)); simp (maxSteps := 2000000) only [go_sem, reduceIte, reduceCtorEq, Nat.reduceAdd, Nat.reduceLT, Nat.reduceLeDiff, Nat.reduceEqDiff, Nat.reduceMul, Nat.reduceSub, Nat.reduceBEq, Tryz.f63, of_65_0, of_63_0, ty_3, of_28_0, of_63_1, of_65_1, of_28_1, hasB])
 | ((with_reducible refine hK _ ?_); clear hK K))
  all_goals (first | (try refine Bool.eq_iff_iff.2 ?_); (simp only [Bool.and_eq_true, Bool.or_eq_true, Bool.not_eq_true', decide_eq_true_eq, decide_eq_false_iff_not, bne_iff_ne, beq_iff_eq, ne_eq, ge_iff_le, gt_iff_lt, cond_eq_ite, iff_self, eq_self]; first | done | omega) | skip)

set_option maxRecDepth 100000 in
set_option maxHeartbeats 4000000 in
theorem rhas_p (a b x : Int) : CallsP Tryz.prog 83 [.agg [.g (.int .i64 (a)), .g (.int .i64 (b))], .one (.g (.int .i64 (x)))] (.t (.one (.g (.bool (decide (a ≤ x ∧ x ≤ b)))))) := by
  refine CallsP_of Tryz.func83 rfl (by rw [Tryz.ntmps83]; simp) ?_
  simp only [Tryz.ntmps83, List.map_cons, List.map_nil, PT.tv, argEnv, Nat.zero_add, Nat.reduceAdd]
  repeat' (first
 | ((with_reducible show AW _ _ _ _); first
 | (with_reducible refine AW_seq_k fun K hK => ?_)
 | (with_reducible refine AW_skip ?_)
 | (with_reducible refine AW_exit ?_)
 | (with_reducible refine AW_ret ?_)
 | (with_reducible refine AW_condI ?_)
 | (with_reducible refine AW_block ?_)
 | ((with_reducible show AW _ (Code.region _ _ _) _ _); first
 | (with_reducible refine AW_regionP 0 [0, 1] ?_)
 | (with_reducible refine AW_regionP 1 [1, 2] ?_)))
 | ((first | (with_reducible refine And.intro ?_ ?_) | (with_reducible refine Need.mk ?_)); focus (first | exact True.intro | (with_reducible assumption) | omega | (refine ⟨?_, ?_⟩ <;> omega) | (intro _; first | exact True.intro | (with_reducible assumption) | omega) | (intros; (repeat' (first | exact True.intro | omega | (with_reducible assumption) | (with_reducible refine And.intro ?_ ?_))); done) | (simp (disch := omega) only [Bool.and_eq_true, Bool.or_eq_true, decide_eq_true_eq, bne_iff_ne, ne_eq] at *; first | done | omega | (intros; omega)) | (simp; done) | (simp; omega) | (simp +contextual; done) | (intro h; rw [h]; rfl) | (intros; simp_all; done)))
 | (with_reducible refine retK_n ?_)
 | (with_reducible refine retK_n' ?_)
 | (with_reducible refine retH_n rfl rfl rfl ?_)
 | (with_reducible refine retH_n' rfl rfl rfl ?_)
 | ((with_reducible show condN _ _ _ _ _ _); first
 | ((with_reducible refine condN_t ?_ ?_) <;> (intro hc; (try simp only [Bool.and_eq_true, Bool.or_eq_true, Bool.not_eq_true', Bool.and_eq_false_iff, Bool.or_eq_false_iff, decide_eq_true_eq, decide_eq_false_iff_not, bne_iff_ne, beq_iff_eq, reduceCtorEq, bne_eq_false_iff_eq, beq_eq_false_iff_ne, Bool.not_eq_false', Int.not_le, Int.not_lt, Bool.not_not] at hc); (try (exfalso; first | contradiction | omega)))))
 | ((fail_if_success (with_reducible show AW _ _ _ _)); simp (maxSteps := 2000000) only [go_sem, reduceIte, reduceCtorEq, Nat.reduceAdd, Nat.reduceLT, Nat.reduceLeDiff, Nat.reduceEqDiff, Nat.reduceMul, Nat.reduceSub, Nat.reduceBEq, Tryz.f83, of_63_0, ty_3, of_63_1])
 | ((with_reducible refine hK _ ?_); clear hK K))
  all_goals (first | (try refine Bool.eq_iff_iff.2 ?_); (simp only [Bool.and_eq_true, Bool.or_eq_true, Bool.not_eq_true', decide_eq_true_eq, decide_eq_false_iff_not, bne_iff_ne, beq_iff_eq, ne_eq, ge_iff_le, gt_iff_lt, cond_eq_ite, iff_self, eq_self]; first | done | omega) | skip)

set_option maxRecDepth 100000 in
set_option maxHeartbeats 4000000 in
theorem rholds_p (a b c d x y : Int) : CallsP Tryz.prog 64 [.agg [.g (.int .i64 (a)), .g (.int .i64 (b)), .g (.int .i64 (c)), .g (.int .i64 (d))], .agg [.g (.int .i64 (x)), .g (.int .i64 (y))]] (.t (.one (.g (.bool (hasB a b c d x y))))) := by
  refine CallsP_of Tryz.func64 rfl (by rw [Tryz.ntmps64]; simp) ?_
  simp only [Tryz.ntmps64, List.map_cons, List.map_nil, PT.tv, argEnv, Nat.zero_add, Nat.reduceAdd]
  repeat' (first
 | ((with_reducible show AW _ _ _ _); first
 | (with_reducible refine AW_seq_k fun K hK => ?_)
 | (with_reducible refine AW_skip ?_)
 | (with_reducible refine AW_exit ?_)
 | (with_reducible refine AW_ret ?_)
 | (with_reducible refine AW_condI ?_)
 | (with_reducible refine AW_block ?_)
 | ((with_reducible show AW _ (Code.region _ _ _) _ _); first
 | (with_reducible refine AW_regionP 0 [0, 1] ?_)
 | (with_reducible refine AW_regionP 1 [2, 3] ?_)
 | (with_reducible refine AW_regionP 2 [2, 3, 5] ?_)
 | (with_reducible refine AW_regionP 3 [5, 6] ?_)))
 | ((first | (with_reducible refine And.intro ?_ ?_) | (with_reducible refine Need.mk ?_)); focus (first | exact True.intro | (with_reducible assumption) | omega | (refine ⟨?_, ?_⟩ <;> omega) | (intro _; first | exact True.intro | (with_reducible assumption) | omega) | (intros; (repeat' (first | exact True.intro | omega | (with_reducible assumption) | (with_reducible refine And.intro ?_ ?_))); done) | (simp (disch := omega) only [Bool.and_eq_true, Bool.or_eq_true, decide_eq_true_eq, bne_iff_ne, ne_eq] at *; first | done | omega | (intros; omega)) | (simp; done) | (simp; omega) | (simp +contextual; done) | (intro h; rw [h]; rfl) | (intros; simp_all; done)))
 | (with_reducible refine retK_n ?_)
 | (with_reducible refine retK_n' ?_)
 | (with_reducible refine retH_n rfl rfl rfl ?_)
 | (with_reducible refine retH_n' rfl rfl rfl ?_)
 | ((with_reducible show condN _ _ _ _ _ _); first
 | ((with_reducible refine condN_t ?_ ?_) <;> (intro hc; (try simp only [Bool.and_eq_true, Bool.or_eq_true, Bool.not_eq_true', Bool.and_eq_false_iff, Bool.or_eq_false_iff, decide_eq_true_eq, decide_eq_false_iff_not, bne_iff_ne, beq_iff_eq, reduceCtorEq, bne_eq_false_iff_eq, beq_eq_false_iff_ne, Bool.not_eq_false', Int.not_le, Int.not_lt, Bool.not_not] at hc); (try (exfalso; first | contradiction | omega)))))
 | ((with_reducible show callN _ _ _ _ _ _ _ _ _ _); first
 | (refine callN_q (k := 83) fnok_83 (rhas_p _ _ _) ?_ ?_))
 | ((fail_if_success (with_reducible show AW _ _ _ _)); simp (maxSteps := 2000000) only [go_sem, reduceIte, reduceCtorEq, Nat.reduceAdd, Nat.reduceLT, Nat.reduceLeDiff, Nat.reduceEqDiff, Nat.reduceMul, Nat.reduceSub, Nat.reduceBEq, Tryz.f64, of_65_0, ty_63, of_28_0, ty_3, fnok_83, of_65_1, of_28_1, hasB])
 | ((with_reducible refine hK _ ?_); clear hK K))
  all_goals (first | (try refine Bool.eq_iff_iff.2 ?_); (simp only [Bool.and_eq_true, Bool.or_eq_true, Bool.not_eq_true', decide_eq_true_eq, decide_eq_false_iff_not, bne_iff_ne, beq_iff_eq, ne_eq, ge_iff_le, gt_iff_lt, cond_eq_ite, iff_self, eq_self]; first | done | omega) | skip)

end Go.Proofs.YtbckibbgajfihaaGreat
