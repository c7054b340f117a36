/- Gl: walks on abstract states. -/
import Derived.Test.YtbckibbgajfihaaGreatGk
set_option linter.unusedVariables false
set_option linter.unusedSimpArgs false
namespace Go.Proofs.YtbckibbgajfihaaGreat
open Go.RowKit Go.Sea
theorem fnok_110 : fnOk Tryz.prog 110 = true := by kernel_rfl
theorem fnok_124 : fnOk Tryz.prog 124 = true := by kernel_rfl
theorem fnok_125 : fnOk Tryz.prog 125 = true := by kernel_rfl
theorem fnok_126 : fnOk Tryz.prog 126 = true := by kernel_rfl
theorem fnok_127 : fnOk Tryz.prog 127 = true := by kernel_rfl
theorem fnok_128 : fnOk Tryz.prog 128 = true := by kernel_rfl
theorem fnok_129 : fnOk Tryz.prog 129 = true := by kernel_rfl
theorem fnok_130 : fnOk Tryz.prog 130 = true := by kernel_rfl
theorem fnok_131 : fnOk Tryz.prog 131 = true := by kernel_rfl
theorem fnok_138 : fnOk Tryz.prog 138 = true := by kernel_rfl
theorem fnok_139 : fnOk Tryz.prog 139 = true := by kernel_rfl
theorem fnok_56 : fnOk Tryz.prog 56 = true := by kernel_rfl
theorem of_57_0 : offOf Tryz.prog 57 0 = some 0 := by kernel_rfl
theorem of_57_1 : offOf Tryz.prog 57 1 = some 1 := by kernel_rfl
theorem of_57_2 : offOf Tryz.prog 57 2 = some 2 := by kernel_rfl
theorem of_57_3 : offOf Tryz.prog 57 3 = some 4 := by kernel_rfl
theorem of_57_4 : offOf Tryz.prog 57 4 = some 5 := by kernel_rfl
theorem of_57_5 : offOf Tryz.prog 57 5 = some 6 := by kernel_rfl
theorem of_57_6 : offOf Tryz.prog 57 6 = some 7 := by kernel_rfl
theorem of_57_7 : offOf Tryz.prog 57 7 = some 8 := by kernel_rfl
theorem ty_53 : tyD Tryz.prog 53 = some (false, 1) := by kernel_rfl
theorem ty_55 : tyD Tryz.prog 55 = some (false, 1) := by kernel_rfl

structure Feat where
  id : Int
  kd : Int
  x : Int
  y : Int
  r : Int
  n : Nat
  P : Nat → Nat → Int
  d : Int
  s : Int
  m : Nat
  S : Nat → Nat → Int
structure Feat.Ok (f : Feat) : Prop where
  n : f.n ≤ 9223372036854775807
  m : f.m ≤ 9223372036854775807
def roomB (x y r : Int) : Bool := ptB (x - r) (y - r) && ptB (x + r) (y + r)
def featC (id kd x y r : Int) (n : Nat) (d s : Int) (m : Nat) (pt rm po se : Bool) : Prop :=
  (1 ≤ id ∧ id ≤ 100000) ∧ (0 ≤ s ∧ s ≤ 999) ∧ (0 ≤ d ∧ d ≤ 100000) ∧ (0 ≤ r ∧ r ≤ 100000) ∧
  ((kd = 1 ∨ kd = 2 ∨ kd = 5) ∧ pt = true ∧ rm = true ∧ n = 0 ∧ m = 0 ∨ (kd = 3 ∨ kd = 6) ∧ (kd = 6 → d = 0) ∧ po = true ∧ x = 0 ∧ y = 0 ∧ r = 0 ∧ m = 0 ∨ kd = 4 ∧ pt = true ∧ se = true ∧ r = 0 ∧ d = 0 ∧ n = 0)
instance (id kd x y r : Int) (n : Nat) (d s : Int) (m : Nat) (pt rm po se : Bool) : Decidable (featC id kd x y r n d s m pt rm po se) := by unfold featC; infer_instance
def featB (f : Feat) : Bool := decide (featC f.id f.kd f.x f.y f.r f.n f.d f.s f.m (ptB f.x f.y) (roomB f.x f.y f.r) (polB f.n f.P) (secsB f.m f.S))
def feqB (f g : Feat) : Bool := decide (f.id = g.id ∧ f.kd = g.kd ∧ f.x = g.x ∧ f.y = g.y ∧ f.r = g.r ∧ f.d = g.d ∧ f.s = g.s) && (eqLB 2 f.n g.n f.P g.P && eqLB 6 f.m g.m f.S g.S)
theorem roomB_iff (x y r : Int) : roomB x y r = true ↔ (-1000000 ≤ x - r ∧ x - r ≤ 1000000 ∧ -1000000 ≤ y - r ∧ y - r ≤ 1000000) ∧ (-1000000 ≤ x + r ∧ x + r ≤ 1000000 ∧ -1000000 ≤ y + r ∧ y + r ≤ 1000000) := by
  unfold roomB ptB; simp only [Bool.and_eq_true, decide_eq_true_eq, and_assoc]
theorem ptB_iff (x y : Int) : ptB x y = true ↔ (-1000000 ≤ x ∧ x ≤ 1000000 ∧ -1000000 ≤ y ∧ y ≤ 1000000) := by
  unfold ptB; simp only [Bool.and_eq_true, decide_eq_true_eq, and_assoc]

theorem feat_iff (f : Feat) : featB f = true ↔ featC f.id f.kd f.x f.y f.r f.n f.d f.s f.m (ptB f.x f.y) (roomB f.x f.y f.r) (polB f.n f.P) (secsB f.m f.S) := decide_eq_true_iff
def rngF (f : Feat) : Prop := (1 ≤ f.id ∧ f.id ≤ 100000) ∧ (0 ≤ f.s ∧ f.s ≤ 999) ∧ (0 ≤ f.d ∧ f.d ≤ 100000) ∧ (0 ≤ f.r ∧ f.r ≤ 100000)
theorem feat_0 {f : Feat} (h : ¬ rngF f) : false = featB f := (decide_eq_false fun g => h ⟨g.1, g.2.1, g.2.2.1, g.2.2.2.1⟩).symm
theorem feat_k {f : Feat} (h : f.kd ≠ 1 ∧ f.kd ≠ 2 ∧ f.kd ≠ 5 ∧ f.kd ≠ 6 ∧ f.kd ≠ 3 ∧ f.kd ≠ 4) : false = featB f := (decide_eq_false fun g => by
  rcases g.2.2.2.2 with k | k | k <;> omega).symm
theorem feat_6 {f : Feat} (h : f.kd = 6) (hd : f.d > 0) : false = featB f := (decide_eq_false fun g => by
  rcases g.2.2.2.2 with k | k | k
  · omega
  · have := k.2.1 h; omega
  · omega).symm
theorem feat_d {f : Feat} (hr : rngF f) (hk : f.kd = 1 ∨ f.kd = 2 ∨ f.kd = 5) : (ptB f.x f.y && roomB f.x f.y f.r && (f.n : Int) == 0 && (f.m : Int) == 0) = featB f := by
  refine Bool.eq_iff_iff.2 ?_
  rw [feat_iff]; unfold featC; simp only [Bool.and_eq_true, beq_iff_eq]
  constructor
  · rintro ⟨⟨⟨h1, h2⟩, h3⟩, h4⟩; exact ⟨hr.1, hr.2.1, hr.2.2.1, hr.2.2.2, Or.inl ⟨hk, h1, h2, by omega, by omega⟩⟩
  · rintro ⟨_, _, _, _, h | h | h⟩
    · exact ⟨⟨⟨h.2.1, h.2.2.1⟩, by omega⟩, by omega⟩
    · omega
    · omega
theorem feat_p {f : Feat} (hr : rngF f) (hk : f.kd = 3 ∨ f.kd = 6) (hd : f.kd = 6 → f.d = 0) : (polB f.n f.P && (f.x == 0 && f.y == 0) && f.r == 0 && (f.m : Int) == 0) = featB f := by
  refine Bool.eq_iff_iff.2 ?_
  rw [feat_iff]; unfold featC; simp only [Bool.and_eq_true, beq_iff_eq]
  constructor
  · rintro ⟨⟨⟨h1, h2⟩, h3⟩, h4⟩; exact ⟨hr.1, hr.2.1, hr.2.2.1, hr.2.2.2, Or.inr (Or.inl ⟨hk, hd, h1, h2.1, h2.2, h3, by omega⟩)⟩
  · rintro ⟨_, _, _, _, h | h | h⟩
    · omega
    · exact ⟨⟨⟨h.2.2.1, h.2.2.2.1, h.2.2.2.2.1⟩, h.2.2.2.2.2.1⟩, by omega⟩
    · omega
theorem feat_l {f : Feat} (hr : rngF f) (hk : f.kd = 4) : (ptB f.x f.y && secsB f.m f.S && f.r == 0 && f.d == 0 && (f.n : Int) == 0) = featB f := by
  refine Bool.eq_iff_iff.2 ?_
  rw [feat_iff]; unfold featC; simp only [Bool.and_eq_true, beq_iff_eq]
  constructor
  · rintro ⟨⟨⟨⟨h1, h2⟩, h3⟩, h4⟩, h5⟩; exact ⟨hr.1, hr.2.1, hr.2.2.1, hr.2.2.2, Or.inr (Or.inr ⟨hk, h1, h2, h3, h4, by omega⟩)⟩
  · rintro ⟨_, _, _, _, h | h | h⟩
    · omega
    · omega
    · exact ⟨⟨⟨⟨h.2.1, h.2.2.1⟩, h.2.2.2.1⟩, h.2.2.2.2.1⟩, by omega⟩
theorem feat_d2 {f : Feat} (hr : rngF f) (hk : f.kd = 1 ∨ f.kd = 2 ∨ f.kd = 5) : (ptB f.x f.y && decide (-1000000 ≤ f.x - f.r ∧ f.x + f.r ≤ 1000000) && decide (-1000000 ≤ f.y - f.r ∧ f.y + f.r ≤ 1000000) && (f.n : Int) == 0 && (f.m : Int) == 0) = featB f := by
  rw [← feat_d hr hk]
  have h4 := hr.2.2.2
  refine Bool.eq_iff_iff.2 ?_
  simp only [Bool.and_eq_true, decide_eq_true_eq, roomB_iff, ptB_iff, beq_iff_eq]
  omega
theorem feat_p2 {f : Feat} (hr : rngF f) (hk : f.kd = 3 ∨ f.kd = 6) : (polB f.n f.P && (f.x == 0 && f.y == 0) && f.r == 0 && (f.m : Int) == 0 && (f.kd == 3 || f.d == 0)) = featB f := by
  by_cases h : f.kd = 3
  · rw [← feat_p hr hk (fun h' => by omega), h]; simp
  · by_cases hd : f.d = 0
    · rw [← feat_p hr hk (fun _ => hd), hd]; simp
    · have := hr.2.2.1
      rw [← feat_6 (f := f) (by omega) (by omega)]; simp [h, hd]
theorem feat_l2 {f : Feat} (hr : rngF f) (hk : f.kd ≠ 1 ∧ f.kd ≠ 2 ∧ f.kd ≠ 5) (hk2 : f.kd ≠ 3 ∧ f.kd ≠ 6) : (f.kd == 4 && ptB f.x f.y && secsB f.m f.S && f.r == 0 && f.d == 0 && (f.n : Int) == 0) = featB f := by
  by_cases h : f.kd = 4
  · rw [← feat_l hr h, h]; simp
  · rw [← feat_k (f := f) (by omega)]; simp [h]

set_option maxRecDepth 100000 in
set_option maxHeartbeats 4000000 in
theorem froom_p (x y r : Int) (hp : ptB x y = true) (hr : 0 ≤ r ∧ r ≤ 100000) : CallsP Tryz.prog 124 [.agg [.g (.int .i64 (x)), .g (.int .i64 (y))], .one (.g (.int .i64 r))] (.t (.one (.g (.bool (roomB x y r))))) := by
  have hq := (ptB_iff _ _).1 hp
  refine CallsP_of Tryz.func124 rfl (by rw [Tryz.ntmps124]; simp) ?_
  simp only [Tryz.ntmps124, List.map_cons, List.map_nil, PT.tv, argEnv, Nat.zero_add, Nat.reduceAdd]
  repeat' (first
 | ((with_reducible show AW _ _ _ _); first
 | (with_reducible refine AW_seq_k fun K hK => ?_)
 | (with_reducible refine AW_skip ?_)
 | (with_reducible refine AW_exit ?_)
 | (with_reducible refine AW_ret ?_)
 | (with_reducible refine AW_condI ?_)
 | (with_reducible refine AW_block ?_)
 | ((with_reducible show AW _ (Code.region _ _ _) _ _); first
 | (with_reducible refine AW_regionP 0 [0, 1] ?_)
 | (with_reducible refine AW_regionP 1 [1, 2] ?_)))
 | ((first | (with_reducible refine And.intro ?_ ?_) | (with_reducible refine Need.mk ?_)); focus (first | exact True.intro | (with_reducible assumption) | omega | (refine ⟨?_, ?_⟩ <;> omega) | (intro _; first | exact True.intro | (with_reducible assumption) | omega) | (intros; (repeat' (first | exact True.intro | omega | (with_reducible assumption) | (with_reducible refine And.intro ?_ ?_))); done) | (simp (disch := omega) only [Bool.and_eq_true, Bool.or_eq_true, decide_eq_true_eq, bne_iff_ne, ne_eq] at *; first | done | omega | (intros; omega)) | (simp; done) | (simp; omega) | (simp +contextual; done) | (intro h; rw [h]; rfl) | (intro hq; have hq2 := hq; simp only [Bool.and_eq_true, Bool.or_eq_true, Bool.not_eq_true', Bool.not_not, Bool.not_eq_false', decide_eq_true_eq, decide_eq_false_iff_not] at hq2; (repeat' (first | exact hq | (with_reducible refine And.intro ?_ ?_) | omega | (simp_all; done))); done) | (intros; simp_all; done)))
 | (with_reducible refine retK_n ?_)
 | (with_reducible refine retK_n' ?_)
 | (with_reducible refine retH_n rfl rfl rfl ?_)
 | (with_reducible refine retH_n' rfl rfl rfl ?_)
 | ((with_reducible show condN _ _ _ _ _ _); first
 | ((with_reducible refine condN_t ?_ ?_) <;> (intro hc; (try simp only [Bool.and_eq_true, Bool.or_eq_true, Bool.not_eq_true', Bool.and_eq_false_iff, Bool.or_eq_false_iff, decide_eq_true_eq, decide_eq_false_iff_not, bne_iff_ne, beq_iff_eq, reduceCtorEq, bne_eq_false_iff_eq, beq_eq_false_iff_ne, Bool.not_eq_false', Int.not_le, Int.not_lt, Bool.not_not] at hc); (skip); (try (exfalso; first | contradiction | omega)))))
 | ((with_reducible show callN _ _ _ _ _ _ _ _ _ _); first
 | (refine callN_q (k := 105) fnok_105 (ptV_p _ _) ?_ ?_))
 | ((with_reducible show callGN _ _ _ _ _ _ _ _ _ _); first
 | (refine callGN_q (k := 105) fnok_105 (fun hg => ptV_p _ _) ?_ ?_))
 | ((fail_if_success (with_reducible show AW _ _ _ _)); simp (maxSteps := 2000000) only [go_sem, reduceIte, reduceCtorEq, Nat.reduceAdd, Nat.reduceLT, Nat.reduceLeDiff, Nat.reduceEqDiff, Nat.reduceMul, Nat.reduceSub, Nat.reduceBEq, Tryz.f124, of_28_0, ty_3, of_28_1, zc_28, fo_28, pl_28_0, pl_28_1, fnok_105])
 | ((fail_if_success (with_reducible show AW _ _ _ _)); simp (disch := omega) only [seaWrap, seaDiv, seaMod])
 | ((with_reducible refine hK _ ?_); clear hK K))
  all_goals (first | (unfold roomB; simp_all; done) | skip)

set_option maxRecDepth 100000 in
set_option maxHeartbeats 4000000 in
theorem nroom_p (x y r : Int) (hp : ptB x y = true) (hr : 0 ≤ r ∧ r ≤ 100000) : CallsP Tryz.prog 106 [.agg [.g (.int .i64 (x)), .g (.int .i64 (y))], .one (.g (.int .i64 r))] (.t (.one (.g (.bool (roomB x y r))))) := by
  have hq := (ptB_iff _ _).1 hp
  refine CallsP_of Tryz.func106 rfl (by rw [Tryz.ntmps106]; simp) ?_
  simp only [Tryz.ntmps106, List.map_cons, List.map_nil, PT.tv, argEnv, Nat.zero_add, Nat.reduceAdd]
  repeat' (first
 | ((with_reducible show AW _ _ _ _); first
 | (with_reducible refine AW_seq_k fun K hK => ?_)
 | (with_reducible refine AW_skip ?_)
 | (with_reducible refine AW_exit ?_)
 | (with_reducible refine AW_ret ?_)
 | (with_reducible refine AW_condI ?_)
 | (with_reducible refine AW_block ?_)
 | ((with_reducible show AW _ (Code.region _ _ _) _ _); first
 | (with_reducible refine AW_regionP 0 [0, 1] ?_)
 | (with_reducible refine AW_regionP 1 [1, 2] ?_)))
 | ((first | (with_reducible refine And.intro ?_ ?_) | (with_reducible refine Need.mk ?_)); focus (first | exact True.intro | (with_reducible assumption) | omega | (refine ⟨?_, ?_⟩ <;> omega) | (intro _; first | exact True.intro | (with_reducible assumption) | omega) | (intros; (repeat' (first | exact True.intro | omega | (with_reducible assumption) | (with_reducible refine And.intro ?_ ?_))); done) | (simp (disch := omega) only [Bool.and_eq_true, Bool.or_eq_true, decide_eq_true_eq, bne_iff_ne, ne_eq] at *; first | done | omega | (intros; omega)) | (simp; done) | (simp; omega) | (simp +contextual; done) | (intro h; rw [h]; rfl) | (intro hq; have hq2 := hq; simp only [Bool.and_eq_true, Bool.or_eq_true, Bool.not_eq_true', Bool.not_not, Bool.not_eq_false', decide_eq_true_eq, decide_eq_false_iff_not] at hq2; (repeat' (first | exact hq | (with_reducible refine And.intro ?_ ?_) | omega | (simp_all; done))); done) | (intros; simp_all; done)))
 | (with_reducible refine retK_n ?_)
 | (with_reducible refine retK_n' ?_)
 | (with_reducible refine retH_n rfl rfl rfl ?_)
 | (with_reducible refine retH_n' rfl rfl rfl ?_)
 | ((with_reducible show condN _ _ _ _ _ _); first
 | ((with_reducible refine condN_t ?_ ?_) <;> (intro hc; (try simp only [Bool.and_eq_true, Bool.or_eq_true, Bool.not_eq_true', Bool.and_eq_false_iff, Bool.or_eq_false_iff, decide_eq_true_eq, decide_eq_false_iff_not, bne_iff_ne, beq_iff_eq, reduceCtorEq, bne_eq_false_iff_eq, beq_eq_false_iff_ne, Bool.not_eq_false', Int.not_le, Int.not_lt, Bool.not_not] at hc); (skip); (try (exfalso; first | contradiction | omega)))))
 | ((with_reducible show callN _ _ _ _ _ _ _ _ _ _); first
 | (refine callN_q (k := 105) fnok_105 (ptV_p _ _) ?_ ?_))
 | ((with_reducible show callGN _ _ _ _ _ _ _ _ _ _); first
 | (refine callGN_q (k := 105) fnok_105 (fun hg => ptV_p _ _) ?_ ?_))
 | ((fail_if_success (with_reducible show AW _ _ _ _)); simp (maxSteps := 2000000) only [go_sem, reduceIte, reduceCtorEq, Nat.reduceAdd, Nat.reduceLT, Nat.reduceLeDiff, Nat.reduceEqDiff, Nat.reduceMul, Nat.reduceSub, Nat.reduceBEq, Tryz.f106, of_28_0, ty_3, of_28_1, zc_28, fo_28, pl_28_0, pl_28_1, fnok_105])
 | ((fail_if_success (with_reducible show AW _ _ _ _)); simp (disch := omega) only [seaWrap, seaDiv, seaMod])
 | ((with_reducible refine hK _ ?_); clear hK K))
  all_goals (first | (unfold roomB; simp_all; done) | skip)

set_option maxRecDepth 100000 in
set_option maxHeartbeats 4000000 in
theorem rroom_p (x r : Int) (hx : -1000000 ≤ x ∧ x ≤ 1000000) (hr : 0 ≤ r ∧ r ≤ 100000) : CallsP Tryz.prog 110 [.one (.g (.int .i64 x)), .one (.g (.int .i64 r))] (.t (.one (.g (.bool (decide (-1000000 ≤ x - r ∧ x + r ≤ 1000000)))))) := by
  refine CallsP_of Tryz.func110 rfl (by rw [Tryz.ntmps110]; simp) ?_
  simp only [Tryz.ntmps110, List.map_cons, List.map_nil, PT.tv, argEnv, Nat.zero_add, Nat.reduceAdd]
  repeat' (first
 | ((with_reducible show AW _ _ _ _); first
 | (with_reducible refine AW_seq_k fun K hK => ?_)
 | (with_reducible refine AW_skip ?_)
 | (with_reducible refine AW_exit ?_)
 | (with_reducible refine AW_ret ?_)
 | (with_reducible refine AW_condI ?_)
 | (with_reducible refine AW_block ?_)
 | ((with_reducible show AW _ (Code.region _ _ _) _ _); first
 | (with_reducible refine AW_regionP 0 [0, 1] ?_)
 | (with_reducible refine AW_regionP 1 [0, 1] ?_)))
 | ((first | (with_reducible refine And.intro ?_ ?_) | (with_reducible refine Need.mk ?_)); focus (first | exact True.intro | (with_reducible assumption) | omega | (refine ⟨?_, ?_⟩ <;> omega) | (intro _; first | exact True.intro | (with_reducible assumption) | omega) | (intros; (repeat' (first | exact True.intro | omega | (with_reducible assumption) | (with_reducible refine And.intro ?_ ?_))); done) | (simp (disch := omega) only [Bool.and_eq_true, Bool.or_eq_true, decide_eq_true_eq, bne_iff_ne, ne_eq] at *; first | done | omega | (intros; omega)) | (simp; done) | (simp; omega) | (simp +contextual; done) | (intro h; rw [h]; rfl) | (intro hq; have hq2 := hq; simp only [Bool.and_eq_true, Bool.or_eq_true, Bool.not_eq_true', Bool.not_not, Bool.not_eq_false', decide_eq_true_eq, decide_eq_false_iff_not] at hq2; (repeat' (first | exact hq | (with_reducible refine And.intro ?_ ?_) | omega | (simp_all; done))); done) | (intros; simp_all; done)))
 | (with_reducible refine retK_n ?_)
 | (with_reducible refine retK_n' ?_)
 | (with_reducible refine retH_n rfl rfl rfl ?_)
 | (with_reducible refine retH_n' rfl rfl rfl ?_)
 | ((with_reducible show condN _ _ _ _ _ _); first
 | ((with_reducible refine condN_t ?_ ?_) <;> (intro hc; (try simp only [Bool.and_eq_true, Bool.or_eq_true, Bool.not_eq_true', Bool.and_eq_false_iff, Bool.or_eq_false_iff, decide_eq_true_eq, decide_eq_false_iff_not, bne_iff_ne, beq_iff_eq, reduceCtorEq, bne_eq_false_iff_eq, beq_eq_false_iff_ne, Bool.not_eq_false', Int.not_le, Int.not_lt, Bool.not_not] at hc); (skip); (try (exfalso; first | contradiction | omega)))))
 | ((fail_if_success (with_reducible show AW _ _ _ _)); simp (maxSteps := 2000000) only [go_sem, reduceIte, reduceCtorEq, Nat.reduceAdd, Nat.reduceLT, Nat.reduceLeDiff, Nat.reduceEqDiff, Nat.reduceMul, Nat.reduceSub, Nat.reduceBEq, Tryz.f110])
 | ((fail_if_success (with_reducible show AW _ _ _ _)); simp (disch := omega) only [seaWrap, seaDiv, seaMod])
 | ((with_reducible refine hK _ ?_); clear hK K))
  all_goals (first | (try refine Bool.eq_iff_iff.2 ?_); (simp only [Bool.and_eq_true, Bool.or_eq_true, Bool.not_eq_true', decide_eq_true_eq, decide_eq_false_iff_not, bne_iff_ne, beq_iff_eq, ne_eq, ge_iff_le, gt_iff_lt, cond_eq_ite, iff_self, eq_self]; first | done | omega) | skip)

set_option maxRecDepth 100000 in
set_option maxHeartbeats 4000000 in
theorem rdisc_p (k : Int) : CallsP Tryz.prog 127 [.one (.g (.int .i64 k))] (.t (.one (.g (.bool (decide (k = 1 ∨ k = 2 ∨ k = 5)))))) := by
  refine CallsP_of Tryz.func127 rfl (by rw [Tryz.ntmps127]; simp) ?_
  simp only [Tryz.ntmps127, List.map_cons, List.map_nil, PT.tv, argEnv, Nat.zero_add, Nat.reduceAdd]
  repeat' (first
 | ((with_reducible show AW _ _ _ _); first
 | (with_reducible refine AW_seq_k fun K hK => ?_)
 | (with_reducible refine AW_skip ?_)
 | (with_reducible refine AW_exit ?_)
 | (with_reducible refine AW_ret ?_)
 | (with_reducible refine AW_condI ?_)
 | (with_reducible refine AW_block ?_)
 | ((with_reducible show AW _ (Code.region _ _ _) _ _); first
 | (with_reducible refine AW_regionP 0 [0] ?_)
 | (with_reducible refine AW_regionP 1 [0] ?_)))
 | ((first | (with_reducible refine And.intro ?_ ?_) | (with_reducible refine Need.mk ?_)); focus (first | exact True.intro | (with_reducible assumption) | omega | (refine ⟨?_, ?_⟩ <;> omega) | (intro _; first | exact True.intro | (with_reducible assumption) | omega) | (intros; (repeat' (first | exact True.intro | omega | (with_reducible assumption) | (with_reducible refine And.intro ?_ ?_))); done) | (simp (disch := omega) only [Bool.and_eq_true, Bool.or_eq_true, decide_eq_true_eq, bne_iff_ne, ne_eq] at *; first | done | omega | (intros; omega)) | (simp; done) | (simp; omega) | (simp +contextual; done) | (intro h; rw [h]; rfl) | (intro hq; have hq2 := hq; simp only [Bool.and_eq_true, Bool.or_eq_true, Bool.not_eq_true', Bool.not_not, Bool.not_eq_false', decide_eq_true_eq, decide_eq_false_iff_not] at hq2; (repeat' (first | exact hq | (with_reducible refine And.intro ?_ ?_) | omega | (simp_all; done))); done) | (intros; simp_all; done)))
 | (with_reducible refine retK_n ?_)
 | (with_reducible refine retK_n' ?_)
 | (with_reducible refine retH_n rfl rfl rfl ?_)
 | (with_reducible refine retH_n' rfl rfl rfl ?_)
 | ((with_reducible show condN _ _ _ _ _ _); first
 | ((with_reducible refine condN_t ?_ ?_) <;> (intro hc; (try simp only [Bool.and_eq_true, Bool.or_eq_true, Bool.not_eq_true', Bool.and_eq_false_iff, Bool.or_eq_false_iff, decide_eq_true_eq, decide_eq_false_iff_not, bne_iff_ne, beq_iff_eq, reduceCtorEq, bne_eq_false_iff_eq, beq_eq_false_iff_ne, Bool.not_eq_false', Int.not_le, Int.not_lt, Bool.not_not] at hc); (skip); (try (exfalso; first | contradiction | omega)))))
 | ((fail_if_success (with_reducible show AW _ _ _ _)); simp (maxSteps := 2000000) only [go_sem, reduceIte, reduceCtorEq, Nat.reduceAdd, Nat.reduceLT, Nat.reduceLeDiff, Nat.reduceEqDiff, Nat.reduceMul, Nat.reduceSub, Nat.reduceBEq, Tryz.f127])
 | ((with_reducible refine hK _ ?_); clear hK K))
  all_goals (first | (try refine Bool.eq_iff_iff.2 ?_); (simp only [Bool.and_eq_true, Bool.or_eq_true, Bool.not_eq_true', decide_eq_true_eq, decide_eq_false_iff_not, bne_iff_ne, beq_iff_eq, ne_eq, ge_iff_le, gt_iff_lt, cond_eq_ite, iff_self, eq_self]; first | done | omega) | skip)

set_option maxRecDepth 100000 in
set_option maxHeartbeats 4000000 in
theorem rpolyg_p (k : Int) : CallsP Tryz.prog 56 [.one (.g (.int .i64 k))] (.t (.one (.g (.bool (decide (k = 3 ∨ k = 6)))))) := by
  refine CallsP_of Tryz.func56 rfl (by rw [Tryz.ntmps56]; simp) ?_
  simp only [Tryz.ntmps56, List.map_cons, List.map_nil, PT.tv, argEnv, Nat.zero_add, Nat.reduceAdd]
  repeat' (first
 | ((with_reducible show AW _ _ _ _); first
 | (with_reducible refine AW_seq_k fun K hK => ?_)
 | (with_reducible refine AW_skip ?_)
 | (with_reducible refine AW_exit ?_)
 | (with_reducible refine AW_ret ?_)
 | (with_reducible refine AW_condI ?_)
 | (with_reducible refine AW_block ?_)
 | ((with_reducible show AW _ (Code.region _ _ _) _ _); first
 | (with_reducible refine AW_regionP 0 [0] ?_)
 | (with_reducible refine AW_regionP 1 [0] ?_)))
 | ((first | (with_reducible refine And.intro ?_ ?_) | (with_reducible refine Need.mk ?_)); focus (first | exact True.intro | (with_reducible assumption) | omega | (refine ⟨?_, ?_⟩ <;> omega) | (intro _; first | exact True.intro | (with_reducible assumption) | omega) | (intros; (repeat' (first | exact True.intro | omega | (with_reducible assumption) | (with_reducible refine And.intro ?_ ?_))); done) | (simp (disch := omega) only [Bool.and_eq_true, Bool.or_eq_true, decide_eq_true_eq, bne_iff_ne, ne_eq] at *; first | done | omega | (intros; omega)) | (simp; done) | (simp; omega) | (simp +contextual; done) | (intro h; rw [h]; rfl) | (intro hq; have hq2 := hq; simp only [Bool.and_eq_true, Bool.or_eq_true, Bool.not_eq_true', Bool.not_not, Bool.not_eq_false', decide_eq_true_eq, decide_eq_false_iff_not] at hq2; (repeat' (first | exact hq | (with_reducible refine And.intro ?_ ?_) | omega | (simp_all; done))); done) | (intros; simp_all; done)))
 | (with_reducible refine retK_n ?_)
 | (with_reducible refine retK_n' ?_)
 | (with_reducible refine retH_n rfl rfl rfl ?_)
 | (with_reducible refine retH_n' rfl rfl rfl ?_)
 | ((with_reducible show condN _ _ _ _ _ _); first
 | ((with_reducible refine condN_t ?_ ?_) <;> (intro hc; (try simp only [Bool.and_eq_true, Bool.or_eq_true, Bool.not_eq_true', Bool.and_eq_false_iff, Bool.or_eq_false_iff, decide_eq_true_eq, decide_eq_false_iff_not, bne_iff_ne, beq_iff_eq, reduceCtorEq, bne_eq_false_iff_eq, beq_eq_false_iff_ne, Bool.not_eq_false', Int.not_le, Int.not_lt, Bool.not_not] at hc); (skip); (try (exfalso; first | contradiction | omega)))))
 | ((fail_if_success (with_reducible show AW _ _ _ _)); simp (maxSteps := 2000000) only [go_sem, reduceIte, reduceCtorEq, Nat.reduceAdd, Nat.reduceLT, Nat.reduceLeDiff, Nat.reduceEqDiff, Nat.reduceMul, Nat.reduceSub, Nat.reduceBEq, Tryz.f56])
 | ((with_reducible refine hK _ ?_); clear hK K))
  all_goals (first | (try refine Bool.eq_iff_iff.2 ?_); (simp only [Bool.and_eq_true, Bool.or_eq_true, Bool.not_eq_true', decide_eq_true_eq, decide_eq_false_iff_not, bne_iff_ne, beq_iff_eq, ne_eq, ge_iff_le, gt_iff_lt, cond_eq_ite, iff_self, eq_self]; first | done | omega) | skip)

set_option maxRecDepth 100000 in
set_option maxHeartbeats 4000000 in
theorem Feat_p (f : Feat) (ho : f.Ok) : CallsP Tryz.prog 104 [.agg [.g (.int .i64 (f.id)), .g (.int .i64 (f.kd)), .g (.int .i64 (f.x)), .g (.int .i64 (f.y)), .g (.int .i64 (f.r)), .lst 2 f.n (ptI f.P), .g (.int .i64 (f.d)), .g (.int .i64 (f.s)), .lst 6 f.m (ptI f.S)]] (.t (.one (.g (.bool (featB f))))) := by
  refine CallsP_of Tryz.func104 rfl (by rw [Tryz.ntmps104]; simp) ?_
  simp only [Tryz.ntmps104, List.map_cons, List.map_nil, PT.tv, argEnv, Nat.zero_add, Nat.reduceAdd]
  repeat' (first
 | ((with_reducible show AW _ _ _ _); first
 | (with_reducible refine AW_seq_k fun K hK => ?_)
 | (with_reducible refine AW_skip ?_)
 | (with_reducible refine AW_exit ?_)
 | (with_reducible refine AW_ret ?_)
 | (with_reducible refine AW_condI ?_)
 | (with_reducible refine AW_block ?_)
 | ((with_reducible show AW _ (Code.region _ _ _) _ _); first
 | (with_reducible refine AW_regionP 0 [0] ?_)
 | (with_reducible refine AW_regionP 1 [1] ?_)
 | (with_reducible refine AW_regionP 2 [] ?_)
 | (with_reducible refine AW_regionP 3 [1] ?_)
 | (with_reducible refine AW_regionP 4 [1, 42] ?_)
 | (with_reducible refine AW_regionP 5 [1, 42] ?_)
 | (with_reducible refine AW_regionP 6 [1, 42] ?_)
 | (with_reducible refine AW_regionP 7 [1, 42] ?_)
 | (with_reducible refine AW_regionP 8 [1, 42] ?_)
 | (with_reducible refine AW_regionP 9 [1, 42] ?_)
 | (with_reducible refine AW_regionP 10 [1] ?_)
 | (with_reducible refine AW_regionP 11 [1] ?_)
 | (with_reducible refine AW_regionP 12 [] ?_)
 | (with_reducible refine AW_regionP 13 [1] ?_)
 | (with_reducible refine AW_regionP 14 [1] ?_)
 | (with_reducible refine AW_regionP 15 [] ?_)))
 | ((first | (with_reducible refine And.intro ?_ ?_) | (with_reducible refine Need.mk ?_)); focus (first | exact True.intro | (with_reducible assumption) | omega | (refine ⟨?_, ?_⟩ <;> omega) | (intro _; first | exact True.intro | (with_reducible assumption) | omega) | (intros; (repeat' (first | exact True.intro | omega | (with_reducible assumption) | (with_reducible refine And.intro ?_ ?_))); done) | (simp (disch := omega) only [Bool.and_eq_true, Bool.or_eq_true, decide_eq_true_eq, bne_iff_ne, ne_eq] at *; first | done | omega | (intros; omega)) | (simp; done) | (simp; omega) | (simp +contextual; done) | (intro h; rw [h]; rfl) | (intro hq; have hq2 := hq; simp only [Bool.and_eq_true, Bool.or_eq_true, Bool.not_eq_true', Bool.not_not, Bool.not_eq_false', decide_eq_true_eq, decide_eq_false_iff_not] at hq2; (repeat' (first | exact hq | (with_reducible refine And.intro ?_ ?_) | omega | (simp_all; done))); done) | (intros; simp_all; done)))
 | (with_reducible refine retK_n ?_)
 | (with_reducible refine retK_n' ?_)
 | (with_reducible refine retH_n rfl rfl rfl ?_)
 | (with_reducible refine retH_n' rfl rfl rfl ?_)
 | ((with_reducible show condN _ _ _ _ _ _); first
 | ((with_reducible refine condN_t ?_ ?_) <;> (intro hc; (try simp only [Bool.and_eq_true, Bool.or_eq_true, Bool.not_eq_true', Bool.and_eq_false_iff, Bool.or_eq_false_iff, decide_eq_true_eq, decide_eq_false_iff_not, bne_iff_ne, beq_iff_eq, reduceCtorEq, bne_eq_false_iff_eq, beq_eq_false_iff_ne, Bool.not_eq_false', Int.not_le, Int.not_lt, Bool.not_not] at hc); (skip); (try (exfalso; first | contradiction | omega)))))
 | ((with_reducible show callN _ _ _ _ _ _ _ _ _ _); first
 | (refine callN_q (k := 105) fnok_105 (ptV_p _ _) ?_ ?_)
 | (refine callN_q (k := 125) fnok_125 (Pol_p _ _ ho.n) ?_ ?_))
 | ((with_reducible show callGN _ _ _ _ _ _ _ _ _ _); first
 | (refine callGN_q (k := 124) fnok_124 (fun hg => froom_p _ _ _ (by assumption) (by omega)) ?_ ?_)
 | (refine callGN_q (k := 126) fnok_126 (fun hg => Secs_p _ _ (by have := ho.m; omega)) ?_ ?_))
 | ((fail_if_success (with_reducible show AW _ _ _ _)); simp (maxSteps := 2000000) only [go_sem, reduceIte, reduceCtorEq, Nat.reduceAdd, Nat.reduceLT, Nat.reduceLeDiff, Nat.reduceEqDiff, Nat.reduceMul, Nat.reduceSub, Nat.reduceBEq, Tryz.f104, of_57_0, ty_3, of_57_6, of_57_5, of_57_3, of_57_1, of_57_2, ty_28, fnok_105, fnok_124, of_57_4, ty_53, le_53, of_57_7, ty_55, le_55, fnok_125, zc_28, fo_28, bo_28, eq_28, fnok_126, Go.Sea.cmpS])
 | ((with_reducible refine hK _ ?_); clear hK K)
 | (with_reducible apply_assumption -exfalso only [*]))
  all_goals (first | exact feat_0 (by unfold rngF; omega) | exact feat_6 (by omega) (by omega) | exact feat_k (by omega) | exact feat_d (by unfold rngF; omega) (by omega) | exact feat_p (by unfold rngF; omega) (by omega) (by omega) | exact feat_l (by unfold rngF; omega) (by omega) | exact feat_d2 (by unfold rngF; omega) (by omega) | exact feat_p2 (by unfold rngF; omega) (by omega) | exact feat_l2 (by unfold rngF; omega) (by omega) (by omega) | skip)

set_option maxRecDepth 100000 in
set_option maxHeartbeats 4000000 in
theorem rFeat_p (f : Feat) (ho : f.Ok) : CallsP Tryz.prog 107 [.agg [.g (.int .i64 (f.id)), .g (.int .i64 (f.kd)), .g (.int .i64 (f.x)), .g (.int .i64 (f.y)), .g (.int .i64 (f.r)), .lst 2 f.n (ptI f.P), .g (.int .i64 (f.d)), .g (.int .i64 (f.s)), .lst 6 f.m (ptI f.S)]] (.t (.one (.g (.bool (featB f))))) := by
  refine CallsP_of Tryz.func107 rfl (by rw [Tryz.ntmps107]; simp) ?_
  simp only [Tryz.ntmps107, List.map_cons, List.map_nil, PT.tv, argEnv, Nat.zero_add, Nat.reduceAdd]
  repeat' (first
 | ((with_reducible show AW _ _ _ _); first
 | (with_reducible refine AW_seq_k fun K hK => ?_)
 | (with_reducible refine AW_skip ?_)
 | (with_reducible refine AW_exit ?_)
 | (with_reducible refine AW_ret ?_)
 | (with_reducible refine AW_condI ?_)
 | (with_reducible refine AW_block ?_)
 | ((with_reducible show AW _ (Code.region _ _ _) _ _); first
 | (with_reducible refine AW_regionP 0 [0] ?_)
 | (with_reducible refine AW_regionP 1 [1] ?_)
 | (with_reducible refine AW_regionP 2 [] ?_)
 | (with_reducible refine AW_regionP 3 [1] ?_)
 | (with_reducible refine AW_regionP 4 [1] ?_)
 | (with_reducible refine AW_regionP 5 [1] ?_)
 | (with_reducible refine AW_regionP 6 [1] ?_)
 | (with_reducible refine AW_regionP 7 [1] ?_)))
 | ((first | (with_reducible refine And.intro ?_ ?_) | (with_reducible refine Need.mk ?_)); focus (first | exact True.intro | (with_reducible assumption) | omega | (refine ⟨?_, ?_⟩ <;> omega) | (intro _; first | exact True.intro | (with_reducible assumption) | omega) | (intros; (repeat' (first | exact True.intro | omega | (with_reducible assumption) | (with_reducible refine And.intro ?_ ?_))); done) | (simp (disch := omega) only [Bool.and_eq_true, Bool.or_eq_true, decide_eq_true_eq, bne_iff_ne, ne_eq] at *; first | done | omega | (intros; omega)) | (simp; done) | (simp; omega) | (simp +contextual; done) | (intro h; rw [h]; rfl) | (intro hq; have hq2 := hq; simp only [Bool.and_eq_true, Bool.or_eq_true, Bool.not_eq_true', Bool.not_not, Bool.not_eq_false', decide_eq_true_eq, decide_eq_false_iff_not] at hq2; (repeat' (first | exact hq | (with_reducible refine And.intro ?_ ?_) | omega | (simp_all; done))); done) | (intros; simp_all; done)))
 | (with_reducible refine retK_n ?_)
 | (with_reducible refine retK_n' ?_)
 | (with_reducible refine retH_n rfl rfl rfl ?_)
 | (with_reducible refine retH_n' rfl rfl rfl ?_)
 | ((with_reducible show condN _ _ _ _ _ _); first
 | ((with_reducible refine condN_t ?_ ?_) <;> (intro hc; (try simp only [Bool.and_eq_true, Bool.or_eq_true, Bool.not_eq_true', Bool.and_eq_false_iff, Bool.or_eq_false_iff, decide_eq_true_eq, decide_eq_false_iff_not, bne_iff_ne, beq_iff_eq, reduceCtorEq, bne_eq_false_iff_eq, beq_eq_false_iff_ne, Bool.not_eq_false', Int.not_le, Int.not_lt, Bool.not_not] at hc); (skip); (try (exfalso; first | contradiction | omega)))))
 | ((with_reducible show callN _ _ _ _ _ _ _ _ _ _); first
 | (refine callN_q (k := 109) fnok_109 (rptV_p _ _) ?_ ?_)
 | (refine callN_q (k := 127) fnok_127 (rdisc_p _) ?_ ?_)
 | (refine callN_q (k := 56) fnok_56 (rpolyg_p _) ?_ ?_)
 | (refine callN_q (k := 128) fnok_128 (rPol_p _ _ ho.n) ?_ ?_))
 | ((with_reducible show callGN _ _ _ _ _ _ _ _ _ _); first
 | (refine callGN_q (k := 109) fnok_109 (fun hg => rptV_p _ _) ?_ ?_)
 | (refine callGN_q (k := 110) fnok_110 (fun hg => rroom_p f.x _ (by have := (ptB_iff _ _).1 (by assumption); omega) (by omega)) ?_ ?_)
 | (refine callGN_q (k := 110) fnok_110 (fun hg => rroom_p f.y _ (by have h1 : ptB f.x f.y = true := (by simp only [Bool.and_eq_true] at hg; exact hg.1); have := (ptB_iff _ _).1 h1; omega) (by omega)) ?_ ?_)
 | (refine callGN_q (k := 129) fnok_129 (fun hg => rSecs_p _ _ (by have := ho.m; omega)) ?_ ?_))
 | ((fail_if_success (with_reducible show AW _ _ _ _)); simp (maxSteps := 2000000) only [go_sem, reduceIte, reduceCtorEq, Nat.reduceAdd, Nat.reduceLT, Nat.reduceLeDiff, Nat.reduceEqDiff, Nat.reduceMul, Nat.reduceSub, Nat.reduceBEq, Tryz.f107, of_57_0, ty_3, of_57_6, of_57_5, of_57_3, of_57_1, fnok_127, of_57_2, ty_28, fnok_109, of_28_0, fnok_110, of_28_1, of_57_4, ty_53, le_53, of_57_7, ty_55, le_55, fnok_56, fnok_128, zc_28, fo_28, bo_28, eq_28, fnok_129, Go.Sea.cmpS])
 | ((with_reducible refine hK _ ?_); clear hK K)
 | (with_reducible apply_assumption -exfalso only [*]))
  all_goals (first | exact feat_0 (by unfold rngF; omega) | exact feat_6 (by omega) (by omega) | exact feat_k (by omega) | exact feat_d (by unfold rngF; omega) (by omega) | exact feat_p (by unfold rngF; omega) (by omega) (by omega) | exact feat_l (by unfold rngF; omega) (by omega) | exact feat_d2 (by unfold rngF; omega) (by omega) | exact feat_p2 (by unfold rngF; omega) (by omega) | exact feat_l2 (by unfold rngF; omega) (by omega) (by omega) | skip)

set_option maxRecDepth 100000 in
set_option maxHeartbeats 4000000 in
theorem fsame_p (f g : Feat) (ho : f.Ok) (ho2 : g.Ok) : CallsP Tryz.prog 123 [.agg [.g (.int .i64 (f.id)), .g (.int .i64 (f.kd)), .g (.int .i64 (f.x)), .g (.int .i64 (f.y)), .g (.int .i64 (f.r)), .lst 2 f.n (ptI f.P), .g (.int .i64 (f.d)), .g (.int .i64 (f.s)), .lst 6 f.m (ptI f.S)], .agg [.g (.int .i64 (g.id)), .g (.int .i64 (g.kd)), .g (.int .i64 (g.x)), .g (.int .i64 (g.y)), .g (.int .i64 (g.r)), .lst 2 g.n (ptI g.P), .g (.int .i64 (g.d)), .g (.int .i64 (g.s)), .lst 6 g.m (ptI g.S)]] (.t (.one (.g (.bool (feqB f g))))) := by
  refine CallsP_of Tryz.func123 rfl (by rw [Tryz.ntmps123]; simp) ?_
  simp only [Tryz.ntmps123, List.map_cons, List.map_nil, PT.tv, argEnv, Nat.zero_add, Nat.reduceAdd]
  repeat' (first
 | ((with_reducible show AW _ _ _ _); first
 | (with_reducible refine AW_seq_k fun K hK => ?_)
 | (with_reducible refine AW_skip ?_)
 | (with_reducible refine AW_exit ?_)
 | (with_reducible refine AW_ret ?_)
 | (with_reducible refine AW_condI ?_)
 | (with_reducible refine AW_block ?_)
 | ((with_reducible show AW _ (Code.region _ _ _) _ _); first
 | (with_reducible refine AW_regionP 0 [0, 1] ?_)
 | (with_reducible refine AW_regionP 1 [2, 3] ?_)))
 | ((first | (with_reducible refine And.intro ?_ ?_) | (with_reducible refine Need.mk ?_)); focus (first | exact True.intro | (with_reducible assumption) | omega | (refine ⟨?_, ?_⟩ <;> omega) | (intro _; first | exact True.intro | (with_reducible assumption) | omega) | (intros; (repeat' (first | exact True.intro | omega | (with_reducible assumption) | (with_reducible refine And.intro ?_ ?_))); done) | (simp (disch := omega) only [Bool.and_eq_true, Bool.or_eq_true, decide_eq_true_eq, bne_iff_ne, ne_eq] at *; first | done | omega | (intros; omega)) | (simp; done) | (simp; omega) | (simp +contextual; done) | (intro h; rw [h]; rfl) | (intro hq; have hq2 := hq; simp only [Bool.and_eq_true, Bool.or_eq_true, Bool.not_eq_true', Bool.not_not, Bool.not_eq_false', decide_eq_true_eq, decide_eq_false_iff_not] at hq2; (repeat' (first | exact hq | (with_reducible refine And.intro ?_ ?_) | omega | (simp_all; done))); done) | (intros; simp_all; done)))
 | (with_reducible refine retK_n ?_)
 | (with_reducible refine retK_n' ?_)
 | (with_reducible refine retH_n rfl rfl rfl ?_)
 | (with_reducible refine retH_n' rfl rfl rfl ?_)
 | ((with_reducible show condN _ _ _ _ _ _); first
 | ((with_reducible refine condN_t ?_ ?_) <;> (intro hc; (try simp only [Bool.and_eq_true, Bool.or_eq_true, Bool.not_eq_true', Bool.and_eq_false_iff, Bool.or_eq_false_iff, decide_eq_true_eq, decide_eq_false_iff_not, bne_iff_ne, beq_iff_eq, reduceCtorEq, bne_eq_false_iff_eq, beq_eq_false_iff_ne, Bool.not_eq_false', Int.not_le, Int.not_lt, Bool.not_not] at hc); (skip); (try (exfalso; first | contradiction | omega)))))
 | ((with_reducible show callGN _ _ _ _ _ _ _ _ _ _); first
 | (refine callGN_q (k := 138) fnok_138 (fun hg => eqPt_p _ _ _ _ ho.n ho2.n) ?_ ?_)
 | (refine callGN_q (k := 139) fnok_139 (fun hg => eqSec_p _ _ _ _ ho.m ho2.m) ?_ ?_))
 | ((fail_if_success (with_reducible show AW _ _ _ _)); simp (maxSteps := 2000000) only [go_sem, reduceIte, reduceCtorEq, Nat.reduceAdd, Nat.reduceLT, Nat.reduceLeDiff, Nat.reduceEqDiff, Nat.reduceMul, Nat.reduceSub, Nat.reduceBEq, Tryz.f123, of_57_0, ty_3, of_57_1, of_57_2, ty_28, bo_28, eq_28, of_57_3, of_57_5, of_57_6, of_57_4, ty_53, fnok_138, of_57_7, ty_55, fnok_139, Go.Sea.cmpS])
 | ((with_reducible refine hK _ ?_); clear hK K))
  all_goals (first | (unfold feqB; refine Bool.eq_iff_iff.2 ?_; simp only [decide_eq_true_eq, Bool.and_eq_true, beq_iff_eq, reduceCtorEq, false_iff]; omega) | (unfold feqB; rw [decide_eq_true (by omega)]; rfl) | (unfold feqB; rw [decide_eq_false (by omega)]; rfl) | (unfold feqB; refine Bool.eq_iff_iff.2 ?_; simp only [decide_eq_true_eq, Bool.and_eq_true, beq_iff_eq]; constructor <;> (intro h; simp_all; done)) | skip)

set_option maxRecDepth 100000 in
set_option maxHeartbeats 4000000 in
theorem rfsame_p (f g : Feat) (ho : f.Ok) (ho2 : g.Ok) : CallsP Tryz.prog 108 [.agg [.g (.int .i64 (f.id)), .g (.int .i64 (f.kd)), .g (.int .i64 (f.x)), .g (.int .i64 (f.y)), .g (.int .i64 (f.r)), .lst 2 f.n (ptI f.P), .g (.int .i64 (f.d)), .g (.int .i64 (f.s)), .lst 6 f.m (ptI f.S)], .agg [.g (.int .i64 (g.id)), .g (.int .i64 (g.kd)), .g (.int .i64 (g.x)), .g (.int .i64 (g.y)), .g (.int .i64 (g.r)), .lst 2 g.n (ptI g.P), .g (.int .i64 (g.d)), .g (.int .i64 (g.s)), .lst 6 g.m (ptI g.S)]] (.t (.one (.g (.bool (feqB f g))))) := by
  refine CallsP_of Tryz.func108 rfl (by rw [Tryz.ntmps108]; simp) ?_
  simp only [Tryz.ntmps108, List.map_cons, List.map_nil, PT.tv, argEnv, Nat.zero_add, Nat.reduceAdd]
  repeat' (first
 | ((with_reducible show AW _ _ _ _); first
 | (with_reducible refine AW_seq_k fun K hK => ?_)
 | (with_reducible refine AW_skip ?_)
 | (with_reducible refine AW_exit ?_)
 | (with_reducible refine AW_ret ?_)
 | (with_reducible refine AW_condI ?_)
 | (with_reducible refine AW_block ?_)
 | ((with_reducible show AW _ (Code.region _ _ _) _ _); first
 | (with_reducible refine AW_regionP 0 [0, 1] ?_)
 | (with_reducible refine AW_regionP 1 [2, 3] ?_)
 | (with_reducible refine AW_regionP 2 [] ?_)
 | (with_reducible refine AW_regionP 3 [2, 3] ?_)))
 | ((first | (with_reducible refine And.intro ?_ ?_) | (with_reducible refine Need.mk ?_)); focus (first | exact True.intro | (with_reducible assumption) | omega | (refine ⟨?_, ?_⟩ <;> omega) | (intro _; first | exact True.intro | (with_reducible assumption) | omega) | (intros; (repeat' (first | exact True.intro | omega | (with_reducible assumption) | (with_reducible refine And.intro ?_ ?_))); done) | (simp (disch := omega) only [Bool.and_eq_true, Bool.or_eq_true, decide_eq_true_eq, bne_iff_ne, ne_eq] at *; first | done | omega | (intros; omega)) | (simp; done) | (simp; omega) | (simp +contextual; done) | (intro h; rw [h]; rfl) | (intro hq; have hq2 := hq; simp only [Bool.and_eq_true, Bool.or_eq_true, Bool.not_eq_true', Bool.not_not, Bool.not_eq_false', decide_eq_true_eq, decide_eq_false_iff_not] at hq2; (repeat' (first | exact hq | (with_reducible refine And.intro ?_ ?_) | omega | (simp_all; done))); done) | (intros; simp_all; done)))
 | (with_reducible refine retK_n ?_)
 | (with_reducible refine retK_n' ?_)
 | (with_reducible refine retH_n rfl rfl rfl ?_)
 | (with_reducible refine retH_n' rfl rfl rfl ?_)
 | ((with_reducible show condN _ _ _ _ _ _); first
 | ((with_reducible refine condN_t ?_ ?_) <;> (intro hc; (try simp only [Bool.and_eq_true, Bool.or_eq_true, Bool.not_eq_true', Bool.and_eq_false_iff, Bool.or_eq_false_iff, decide_eq_true_eq, decide_eq_false_iff_not, bne_iff_ne, beq_iff_eq, reduceCtorEq, bne_eq_false_iff_eq, beq_eq_false_iff_ne, Bool.not_eq_false', Int.not_le, Int.not_lt, Bool.not_not] at hc); (skip); (try (exfalso; first | contradiction | omega)))))
 | ((with_reducible show callN _ _ _ _ _ _ _ _ _ _); first
 | (refine callN_q (k := 130) fnok_130 (reqPt_p _ _ _ _ ho.n ho2.n) ?_ ?_))
 | ((with_reducible show callGN _ _ _ _ _ _ _ _ _ _); first
 | (refine callGN_q (k := 131) fnok_131 (fun hg => reqSec_p _ _ _ _ ho.m ho2.m) ?_ ?_))
 | ((fail_if_success (with_reducible show AW _ _ _ _)); simp (maxSteps := 2000000) only [go_sem, reduceIte, reduceCtorEq, Nat.reduceAdd, Nat.reduceLT, Nat.reduceLeDiff, Nat.reduceEqDiff, Nat.reduceMul, Nat.reduceSub, Nat.reduceBEq, Tryz.f108, of_57_0, ty_3, of_57_1, of_57_2, ty_28, bo_28, eq_28, of_57_3, of_57_5, of_57_6, of_57_4, ty_53, fnok_130, of_57_7, ty_55, fnok_131, Go.Sea.cmpS])
 | ((with_reducible refine hK _ ?_); clear hK K))
  all_goals (first | (unfold feqB; refine Bool.eq_iff_iff.2 ?_; simp only [decide_eq_true_eq, Bool.and_eq_true, beq_iff_eq, reduceCtorEq, false_iff]; omega) | (unfold feqB; rw [decide_eq_true (by omega)]; rfl) | (unfold feqB; rw [decide_eq_false (by omega)]; rfl) | (unfold feqB; refine Bool.eq_iff_iff.2 ?_; simp only [decide_eq_true_eq, Bool.and_eq_true, beq_iff_eq]; constructor <;> (intro h; simp_all; done)) | skip)

end Go.Proofs.YtbckibbgajfihaaGreat
