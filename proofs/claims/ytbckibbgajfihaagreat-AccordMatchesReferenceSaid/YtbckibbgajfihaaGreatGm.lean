/- Gm: walks on abstract states. -/
import Derived.Test.YtbckibbgajfihaaGreatGl
set_option linter.unusedVariables false
set_option linter.unusedSimpArgs false
namespace Go.Proofs.YtbckibbgajfihaaGreat
open Go.RowKit Go.Sea
theorem fnok_102 : fnOk Tryz.prog 102 = true := by kernel_rfl
theorem fnok_103 : fnOk Tryz.prog 103 = true := by kernel_rfl
theorem fnok_104 : fnOk Tryz.prog 104 = true := by kernel_rfl
theorem fnok_106 : fnOk Tryz.prog 106 = true := by kernel_rfl
theorem fnok_123 : fnOk Tryz.prog 123 = true := by kernel_rfl
theorem fo_57 : fieldsOk Tryz.prog 57 = true := by kernel_rfl
theorem fo_59 : fieldsOk Tryz.prog 59 = true := by kernel_rfl
theorem of_59_0 : offOf Tryz.prog 59 0 = some 0 := by kernel_rfl
theorem of_59_1 : offOf Tryz.prog 59 1 = some 1 := by kernel_rfl
theorem of_59_2 : offOf Tryz.prog 59 2 = some 2 := by kernel_rfl
theorem of_59_3 : offOf Tryz.prog 59 3 = some 11 := by kernel_rfl
theorem of_59_4 : offOf Tryz.prog 59 4 = some 13 := by kernel_rfl
theorem of_59_5 : offOf Tryz.prog 59 5 = some 14 := by kernel_rfl
theorem of_59_6 : offOf Tryz.prog 59 6 = some 15 := by kernel_rfl
theorem pl_59_0 : placeF Tryz.prog 59 0 = some (0, 1) := by kernel_rfl
theorem pl_59_1 : placeF Tryz.prog 59 1 = some (1, 1) := by kernel_rfl
theorem ty_57 : tyD Tryz.prog 57 = some (true, 9) := by kernel_rfl
theorem ty_59 : tyD Tryz.prog 59 = some (true, 16) := by kernel_rfl
theorem zc_57 : zeroC Tryz.prog 57 = some [.iv (.g (.int .i64 0)), .iv (.g (.int .i64 0)), .iv (.g (.int .i64 0)), .iv (.g (.int .i64 0)), .iv (.g (.int .i64 0)), .iv (.g (.slice none 0 0)), .iv (.g (.int .i64 0)), .iv (.g (.int .i64 0)), .iv (.g (.slice none 0 0))] := by kernel_rfl
theorem zc_59 : zeroC Tryz.prog 59 = some [.iv (.g (.int .i64 0)), .iv (.g (.int .i64 0)), .iv (.g (.int .i64 0)), .iv (.g (.int .i64 0)), .iv (.g (.int .i64 0)), .iv (.g (.int .i64 0)), .iv (.g (.int .i64 0)), .iv (.g (.slice none 0 0)), .iv (.g (.int .i64 0)), .iv (.g (.int .i64 0)), .iv (.g (.slice none 0 0)), .iv (.g (.int .i64 0)), .iv (.g (.int .i64 0)), .iv (.g (.int .i64 0)), .iv (.g (.int .i64 0)), .iv (.g (.int .i64 0))] := by kernel_rfl

structure OpS where
  kd : Int
  id : Int
  f : Feat
  x : Int
  y : Int
  r : Int
  d : Int
  s : Int
def feat0 : Feat := ⟨0, 0, 0, 0, 0, 0, fun _ _ => 0, 0, 0, 0, fun _ _ => 0⟩
def zOp (k i : Int) : OpS := ⟨k, i, feat0, 0, 0, 0, 0, 0⟩
def bareO (o : OpS) : OpS := if o.kd = 1 then ⟨o.kd, o.id, feat0, o.x, o.y, o.r, o.d, o.s⟩ else if o.kd = 3 then ⟨o.kd, o.id, o.f, 0, 0, 0, o.d, o.s⟩ else if o.kd = 4 then ⟨o.kd, o.id, o.f, o.x, o.y, o.r, 0, o.s⟩ else if o.kd = 5 then ⟨o.kd, o.id, o.f, o.x, o.y, o.r, o.d, 0⟩ else o
theorem feat0_ok : feat0.Ok := ⟨by simp [feat0], by simp [feat0]⟩
theorem bareO_ok {o : OpS} (h : o.f.Ok) : (bareO o).f.Ok := by
  unfold bareO; repeat' split
  all_goals first | exact feat0_ok | exact h
def zF (f : Feat) : Prop := f.id = 0 ∧ f.kd = 0 ∧ f.x = 0 ∧ f.y = 0 ∧ f.r = 0 ∧ f.d = 0 ∧ f.s = 0 ∧ f.n = 0 ∧ f.m = 0
instance (f : Feat) : Decidable (zF f) := by unfold zF; infer_instance
def opC (o : OpS) (pt rm fe : Bool) : Prop :=
  (1 ≤ o.id ∧ o.id ≤ 100000) ∧ (o.kd = 1 ∧ o.f.id = o.id ∧ fe = true ∧ o.x = 0 ∧ o.y = 0 ∧ o.r = 0 ∧ o.d = 0 ∧ o.s = 0 ∨ zF o.f ∧
    (o.kd = 2 ∧ o.x = 0 ∧ o.y = 0 ∧ o.r = 0 ∧ o.d = 0 ∧ o.s = 0 ∨ o.kd = 3 ∧ (0 ≤ o.r ∧ o.r ≤ 100000) ∧ pt = true ∧ rm = true ∧ o.d = 0 ∧ o.s = 0 ∨
     o.kd = 4 ∧ (0 ≤ o.d ∧ o.d ≤ 100000) ∧ o.x = 0 ∧ o.y = 0 ∧ o.r = 0 ∧ o.s = 0 ∨ o.kd = 5 ∧ (0 ≤ o.s ∧ o.s ≤ 999) ∧ o.x = 0 ∧ o.y = 0 ∧ o.r = 0 ∧ o.d = 0))
instance (o : OpS) (pt rm fe : Bool) : Decidable (opC o pt rm fe) := by unfold opC; infer_instance
def opB (o : OpS) : Bool := decide (opC o (ptB o.x o.y) (roomB o.x o.y o.r) (featB o.f))
def sopB (a b : OpS) : Bool := decide (a.kd = b.kd ∧ a.id = b.id ∧ a.x = b.x ∧ a.y = b.y ∧ a.r = b.r ∧ a.d = b.d ∧ a.s = b.s) && feqB a.f b.f
theorem eqLB_z {w n : Nat} {P Q : Nat → Nat → Int} : eqLB w n 0 P Q = true ↔ n = 0 := by
  unfold eqLB; rw [decide_eq_true_eq]
  exact ⟨fun h => h.1, fun h => ⟨h, fun i hi => by omega⟩⟩
theorem feqB_z (f : Feat) : feqB f feat0 = true ↔ zF f := by
  unfold feqB zF; simp only [Bool.and_eq_true, decide_eq_true_eq]; simp only [feat0, eqLB_z, and_assoc]
theorem bare_z (o : OpS) : sopB (bareO o) (zOp o.kd o.id) = true ↔ ((o.kd = 1 ∨ zF o.f) ∧ (o.kd = 3 ∨ (o.x = 0 ∧ o.y = 0 ∧ o.r = 0)) ∧ (o.kd = 4 ∨ o.d = 0) ∧ (o.kd = 5 ∨ o.s = 0)) := by
  have h0 : zF feat0 := ⟨rfl, rfl, rfl, rfl, rfl, rfl, rfl, rfl, rfl⟩
  unfold sopB; simp only [Bool.and_eq_true, decide_eq_true_eq]; simp only [zOp, feqB_z]
  unfold bareO
  by_cases h1 : o.kd = 1
  · simp [h1, h0, and_assoc]
  · by_cases h3 : o.kd = 3
    · simp [h3]
      generalize zF o.f = z at *; constructor <;> (intro h; simp_all)
    · by_cases h4 : o.kd = 4
      · simp [h4]
        generalize zF o.f = z at *; constructor <;> (intro h; simp_all)
      · by_cases h5 : o.kd = 5
        · simp [h5]
          generalize zF o.f = z at *; constructor <;> (intro h; simp_all)
        · simp [h1, h3, h4, h5]
          generalize zF o.f = z at *; constructor <;> (intro h; simp_all)

theorem bare_1 {o : OpS} (h : o.kd = 1) : bareO o = ⟨o.kd, o.id, feat0, o.x, o.y, o.r, o.d, o.s⟩ := by unfold bareO; rw [if_pos h]
theorem bare_3 {o : OpS} (h : o.kd = 3) : bareO o = ⟨o.kd, o.id, o.f, 0, 0, 0, o.d, o.s⟩ := by unfold bareO; rw [if_neg (by omega), if_pos h]
theorem bare_4 {o : OpS} (h : o.kd = 4) : bareO o = ⟨o.kd, o.id, o.f, o.x, o.y, o.r, 0, o.s⟩ := by unfold bareO; rw [if_neg (by omega), if_neg (by omega), if_pos h]
theorem bare_5 {o : OpS} (h : o.kd = 5) : bareO o = ⟨o.kd, o.id, o.f, o.x, o.y, o.r, o.d, 0⟩ := by unfold bareO; rw [if_neg (by omega), if_neg (by omega), if_neg (by omega), if_pos h]
theorem bare_n {o : OpS} (h : o.kd ≠ 1 ∧ o.kd ≠ 3 ∧ o.kd ≠ 4 ∧ o.kd ≠ 5) : bareO o = o := by unfold bareO; rw [if_neg h.1, if_neg h.2.1, if_neg h.2.2.1, if_neg h.2.2.2]
theorem op_iff (o : OpS) : opB o = true ↔ opC o (ptB o.x o.y) (roomB o.x o.y o.r) (featB o.f) := decide_eq_true_iff
def idO (o : OpS) : Prop := (1 ≤ o.id ∧ o.id ≤ 100000) ∧ sopB (bareO o) (zOp o.kd o.id) = true
theorem op_f {o : OpS} (h : (o.id < 1 ∨ o.id > 100000) ∨ sopB (bareO o) (zOp o.kd o.id) = false) : false = opB o := by
  refine Bool.eq_iff_iff.2 ?_
  rw [op_iff]
  refine ⟨fun g => (by cases g), fun g => ?_⟩
  exfalso
  obtain ⟨g1, g2⟩ := g
  have : sopB (bareO o) (zOp o.kd o.id) = true := by
    rw [bare_z]
    rcases g2 with g2 | ⟨gz, g2 | g2 | g2 | g2⟩
    · exact ⟨Or.inl g2.1, by omega, by omega, by omega⟩
    all_goals exact ⟨Or.inr gz, by omega, by omega, by omega⟩
  rcases h with h | h
  · omega
  · rw [this] at h; cases h
theorem op_1 {o : OpS} (h : idO o) (hk : o.kd = 1) : (o.f.id == o.id && featB o.f) = opB o := by
  obtain ⟨h1, h2⟩ := h; rw [bare_z] at h2
  refine Bool.eq_iff_iff.2 ?_
  rw [op_iff]; unfold opC; simp only [Bool.and_eq_true, beq_iff_eq]
  constructor
  · rintro ⟨g1, g2⟩; exact ⟨h1, Or.inl ⟨hk, g1, g2, by omega, by omega, by omega, by omega, by omega⟩⟩
  · rintro ⟨_, g | ⟨_, g | g | g | g⟩⟩
    · exact ⟨g.2.1, g.2.2.1⟩
    all_goals omega
theorem zf_o {o : OpS} (h2 : (o.kd = 1 ∨ zF o.f) ∧ (o.kd = 3 ∨ (o.x = 0 ∧ o.y = 0 ∧ o.r = 0)) ∧ (o.kd = 4 ∨ o.d = 0) ∧ (o.kd = 5 ∨ o.s = 0)) (hk : o.kd ≠ 1) : zF o.f := h2.1.resolve_left hk
theorem op_2 {o : OpS} (h : idO o) (hk : o.kd = 2) : true = opB o := by
  obtain ⟨h1, h2⟩ := h; rw [bare_z] at h2
  refine ((op_iff o).2 ⟨h1, Or.inr ⟨zf_o h2 (by omega), Or.inl (by omega)⟩⟩).symm
theorem op_3 {o : OpS} (h : idO o) (hk : o.kd = 3) : (decide (o.r ≥ 0) && decide (o.r ≤ 100000) && ptB o.x o.y && roomB o.x o.y o.r) = opB o := by
  obtain ⟨h1, h2⟩ := h; rw [bare_z] at h2
  refine Bool.eq_iff_iff.2 ?_
  rw [op_iff]; unfold opC; simp only [Bool.and_eq_true, decide_eq_true_eq]
  constructor
  · rintro ⟨⟨⟨g1, g2⟩, g3⟩, g4⟩; exact ⟨h1, Or.inr ⟨zf_o h2 (by omega), Or.inr (Or.inl ⟨hk, ⟨g1, g2⟩, g3, g4, by omega, by omega⟩)⟩⟩
  · rintro ⟨_, g | ⟨_, g | g | g | g⟩⟩
    · omega
    · omega
    · exact ⟨⟨⟨g.2.1.1, g.2.1.2⟩, g.2.2.1⟩, g.2.2.2.1⟩
    all_goals omega
theorem op_4 {o : OpS} (h : idO o) (hk : o.kd = 4) : (decide (o.d ≥ 0) && decide (o.d ≤ 100000)) = opB o := by
  obtain ⟨h1, h2⟩ := h; rw [bare_z] at h2
  refine Bool.eq_iff_iff.2 ?_
  rw [op_iff]; unfold opC; simp only [Bool.and_eq_true, decide_eq_true_eq]
  constructor
  · rintro ⟨g1, g2⟩; exact ⟨h1, Or.inr ⟨zf_o h2 (by omega), Or.inr (Or.inr (Or.inl ⟨hk, ⟨g1, g2⟩, by omega, by omega, by omega, by omega⟩))⟩⟩
  · rintro ⟨_, g | ⟨_, g | g | g | g⟩⟩ <;> omega
theorem op_5 {o : OpS} (h : idO o) (hk : o.kd = 5) : (decide (o.s ≥ 0) && decide (o.s ≤ 999)) = opB o := by
  obtain ⟨h1, h2⟩ := h; rw [bare_z] at h2
  refine Bool.eq_iff_iff.2 ?_
  rw [op_iff]; unfold opC; simp only [Bool.and_eq_true, decide_eq_true_eq]
  constructor
  · rintro ⟨g1, g2⟩; exact ⟨h1, Or.inr ⟨zf_o h2 (by omega), Or.inr (Or.inr (Or.inr ⟨hk, ⟨g1, g2⟩, by omega, by omega, by omega, by omega⟩))⟩⟩
  · rintro ⟨_, g | ⟨_, g | g | g | g⟩⟩ <;> omega
theorem op_n {o : OpS} (hk : o.kd ≠ 1 ∧ o.kd ≠ 2 ∧ o.kd ≠ 3 ∧ o.kd ≠ 4 ∧ o.kd ≠ 5) : false = opB o := by
  refine Bool.eq_iff_iff.2 ?_
  rw [op_iff]; unfold opC
  refine ⟨fun g => (by cases g), ?_⟩
  rintro ⟨_, g | ⟨_, g | g | g | g⟩⟩ <;> omega

set_option maxRecDepth 100000 in
set_option maxHeartbeats 4000000 in
theorem bare_p (o : OpS) (ho : o.f.Ok) : CallsP Tryz.prog 103 [.agg [.g (.int .i64 (o.kd)), .g (.int .i64 (o.id)), .g (.int .i64 (o.f.id)), .g (.int .i64 (o.f.kd)), .g (.int .i64 (o.f.x)), .g (.int .i64 (o.f.y)), .g (.int .i64 (o.f.r)), .lst 2 o.f.n (ptI o.f.P), .g (.int .i64 (o.f.d)), .g (.int .i64 (o.f.s)), .lst 6 o.f.m (ptI o.f.S), .g (.int .i64 (o.x)), .g (.int .i64 (o.y)), .g (.int .i64 (o.r)), .g (.int .i64 (o.d)), .g (.int .i64 (o.s))]] (.t (.agg [.g (.int .i64 ((bareO o).kd)), .g (.int .i64 ((bareO o).id)), .g (.int .i64 ((bareO o).f.id)), .g (.int .i64 ((bareO o).f.kd)), .g (.int .i64 ((bareO o).f.x)), .g (.int .i64 ((bareO o).f.y)), .g (.int .i64 ((bareO o).f.r)), .lst 2 (bareO o).f.n (ptI (bareO o).f.P), .g (.int .i64 ((bareO o).f.d)), .g (.int .i64 ((bareO o).f.s)), .lst 6 (bareO o).f.m (ptI (bareO o).f.S), .g (.int .i64 ((bareO o).x)), .g (.int .i64 ((bareO o).y)), .g (.int .i64 ((bareO o).r)), .g (.int .i64 ((bareO o).d)), .g (.int .i64 ((bareO o).s))])) := by
  refine CallsP_of Tryz.func103 rfl (by rw [Tryz.ntmps103]; simp) ?_
  simp only [Tryz.ntmps103, List.map_cons, List.map_nil, PT.tv, argEnv, Nat.zero_add, Nat.reduceAdd]
  repeat' (first
 | ((with_reducible show AW _ _ _ _); first
 | (with_reducible refine AW_seq_k fun K hK => ?_)
 | (with_reducible refine AW_skip ?_)
 | (with_reducible refine AW_exit ?_)
 | (with_reducible refine AW_ret ?_)
 | (with_reducible refine AW_condI ?_)
 | (with_reducible refine AW_block ?_)
 | ((with_reducible show AW _ (Code.region _ _ _) _ _); first
 | (with_reducible refine AW_regionP 0 [0] ?_)
 | (with_reducible refine AW_regionP 1 [1, 2] ?_)
 | (with_reducible refine AW_regionP 2 [1, 2, 4] ?_)
 | (with_reducible refine AW_regionP 3 [1, 2] ?_)
 | (with_reducible refine AW_regionP 4 [1, 2, 4] ?_)
 | (with_reducible refine AW_regionP 5 [1, 2] ?_)
 | (with_reducible refine AW_regionP 6 [1, 2, 4] ?_)
 | (with_reducible refine AW_regionP 7 [1, 2] ?_)
 | (with_reducible refine AW_regionP 8 [1, 2, 4] ?_)
 | (with_reducible refine AW_regionP 9 [1, 2] ?_)
 | (with_reducible refine AW_regionP 10 [1, 2] ?_)))
 | ((first | (with_reducible refine And.intro ?_ ?_) | (with_reducible refine Need.mk ?_)); focus (first | exact True.intro | (with_reducible assumption) | omega | (refine ⟨?_, ?_⟩ <;> omega) | (intro _; first | exact True.intro | (with_reducible assumption) | omega) | (intros; (repeat' (first | exact True.intro | omega | (with_reducible assumption) | (with_reducible refine And.intro ?_ ?_))); done) | (simp (disch := omega) only [Bool.and_eq_true, Bool.or_eq_true, decide_eq_true_eq, bne_iff_ne, ne_eq] at *; first | done | omega | (intros; omega)) | (simp; done) | (simp; omega) | (simp +contextual; done) | (intro h; rw [h]; rfl) | (intro hq; have hq2 := hq; simp only [Bool.and_eq_true, Bool.or_eq_true, Bool.not_eq_true', Bool.not_not, Bool.not_eq_false', decide_eq_true_eq, decide_eq_false_iff_not] at hq2; (repeat' (first | exact hq | (with_reducible refine And.intro ?_ ?_) | omega | (simp_all; done))); done) | (intros; simp_all; done)))
 | (with_reducible refine retK_n ?_)
 | (with_reducible refine retK_n' ?_)
 | (with_reducible refine retH_n rfl rfl rfl ?_)
 | (with_reducible refine retH_n' rfl rfl rfl ?_)
 | ((with_reducible show condN _ _ _ _ _ _); first
 | ((with_reducible refine condN_t ?_ ?_) <;> (intro hc; (try simp only [Bool.and_eq_true, Bool.or_eq_true, Bool.not_eq_true', Bool.and_eq_false_iff, Bool.or_eq_false_iff, decide_eq_true_eq, decide_eq_false_iff_not, bne_iff_ne, beq_iff_eq, reduceCtorEq, bne_eq_false_iff_eq, beq_eq_false_iff_ne, Bool.not_eq_false', Int.not_le, Int.not_lt, Bool.not_not] at hc); (skip); (try (exfalso; first | contradiction | omega)))))
 | ((fail_if_success (with_reducible show AW _ _ _ _)); simp (maxSteps := 2000000) only [go_sem, reduceIte, reduceCtorEq, Nat.reduceAdd, Nat.reduceLT, Nat.reduceLeDiff, Nat.reduceEqDiff, Nat.reduceMul, Nat.reduceSub, Nat.reduceBEq, Tryz.f103, zc_59, of_59_0, ty_3, zc_57, fo_57, of_59_2, ty_57, zc_28, fo_28, of_59_3, ty_28, of_59_4, of_59_5, of_59_6, ty_59])
 | ((with_reducible refine hK _ ?_); clear hK K))
  all_goals ((first | rw [bare_1 (by assumption)] | rw [bare_3 (by assumption)] | rw [bare_4 (by assumption)] | rw [bare_5 (by assumption)] | rw [bare_n ⟨by assumption, by assumption, by assumption, by assumption⟩]); (repeat' (first | exact rfl | (with_reducible refine And.intro ?_ ?_) | (intro i q hi hq; exact IV.eqv_refl _))))

set_option maxRecDepth 100000 in
set_option maxHeartbeats 4000000 in
theorem sop_p (a b : OpS) (ha : a.f.Ok) (hb : b.f.Ok) : CallsP Tryz.prog 102 [.agg [.g (.int .i64 (a.kd)), .g (.int .i64 (a.id)), .g (.int .i64 (a.f.id)), .g (.int .i64 (a.f.kd)), .g (.int .i64 (a.f.x)), .g (.int .i64 (a.f.y)), .g (.int .i64 (a.f.r)), .lst 2 a.f.n (ptI a.f.P), .g (.int .i64 (a.f.d)), .g (.int .i64 (a.f.s)), .lst 6 a.f.m (ptI a.f.S), .g (.int .i64 (a.x)), .g (.int .i64 (a.y)), .g (.int .i64 (a.r)), .g (.int .i64 (a.d)), .g (.int .i64 (a.s))], .agg [.g (.int .i64 (b.kd)), .g (.int .i64 (b.id)), .g (.int .i64 (b.f.id)), .g (.int .i64 (b.f.kd)), .g (.int .i64 (b.f.x)), .g (.int .i64 (b.f.y)), .g (.int .i64 (b.f.r)), .lst 2 b.f.n (ptI b.f.P), .g (.int .i64 (b.f.d)), .g (.int .i64 (b.f.s)), .lst 6 b.f.m (ptI b.f.S), .g (.int .i64 (b.x)), .g (.int .i64 (b.y)), .g (.int .i64 (b.r)), .g (.int .i64 (b.d)), .g (.int .i64 (b.s))]] (.t (.one (.g (.bool (sopB a b))))) := by
  refine CallsP_of Tryz.func102 rfl (by rw [Tryz.ntmps102]; simp) ?_
  simp only [Tryz.ntmps102, List.map_cons, List.map_nil, PT.tv, argEnv, Nat.zero_add, Nat.reduceAdd]
  repeat' (first
 | ((with_reducible show AW _ _ _ _); first
 | (with_reducible refine AW_seq_k fun K hK => ?_)
 | (with_reducible refine AW_skip ?_)
 | (with_reducible refine AW_exit ?_)
 | (with_reducible refine AW_ret ?_)
 | (with_reducible refine AW_condI ?_)
 | (with_reducible refine AW_block ?_)
 | ((with_reducible show AW _ (Code.region _ _ _) _ _); first
 | (with_reducible refine AW_regionP 0 [0, 1] ?_)
 | (with_reducible refine AW_regionP 1 [2, 3] ?_)))
 | ((first | (with_reducible refine And.intro ?_ ?_) | (with_reducible refine Need.mk ?_)); focus (first | exact True.intro | (with_reducible assumption) | omega | (refine ⟨?_, ?_⟩ <;> omega) | (intro _; first | exact True.intro | (with_reducible assumption) | omega) | (intros; (repeat' (first | exact True.intro | omega | (with_reducible assumption) | (with_reducible refine And.intro ?_ ?_))); done) | (simp (disch := omega) only [Bool.and_eq_true, Bool.or_eq_true, decide_eq_true_eq, bne_iff_ne, ne_eq] at *; first | done | omega | (intros; omega)) | (simp; done) | (simp; omega) | (simp +contextual; done) | (intro h; rw [h]; rfl) | (intro hq; have hq2 := hq; simp only [Bool.and_eq_true, Bool.or_eq_true, Bool.not_eq_true', Bool.not_not, Bool.not_eq_false', decide_eq_true_eq, decide_eq_false_iff_not] at hq2; (repeat' (first | exact hq | (with_reducible refine And.intro ?_ ?_) | omega | (simp_all; done))); done) | (intros; simp_all; done)))
 | (with_reducible refine retK_n ?_)
 | (with_reducible refine retK_n' ?_)
 | (with_reducible refine retH_n rfl rfl rfl ?_)
 | (with_reducible refine retH_n' rfl rfl rfl ?_)
 | ((with_reducible show condN _ _ _ _ _ _); first
 | ((with_reducible refine condN_t ?_ ?_) <;> (intro hc; (try simp only [Bool.and_eq_true, Bool.or_eq_true, Bool.not_eq_true', Bool.and_eq_false_iff, Bool.or_eq_false_iff, decide_eq_true_eq, decide_eq_false_iff_not, bne_iff_ne, beq_iff_eq, reduceCtorEq, bne_eq_false_iff_eq, beq_eq_false_iff_ne, Bool.not_eq_false', Int.not_le, Int.not_lt, Bool.not_not] at hc); (skip); (try (exfalso; first | contradiction | omega)))))
 | ((with_reducible show callGN _ _ _ _ _ _ _ _ _ _); first
 | (refine callGN_q (k := 123) fnok_123 (fun hg => fsame_p _ _ ha hb) ?_ ?_))
 | ((fail_if_success (with_reducible show AW _ _ _ _)); simp (maxSteps := 2000000) only [go_sem, reduceIte, reduceCtorEq, Nat.reduceAdd, Nat.reduceLT, Nat.reduceLeDiff, Nat.reduceEqDiff, Nat.reduceMul, Nat.reduceSub, Nat.reduceBEq, Tryz.f102, of_59_0, ty_3, of_59_1, of_59_3, ty_28, bo_28, eq_28, of_59_4, of_59_5, of_59_6, of_59_2, ty_57, fnok_123, Go.Sea.cmpS])
 | ((with_reducible refine hK _ ?_); clear hK K))
  all_goals (unfold sopB; refine Bool.eq_iff_iff.2 ?_; simp only [Bool.and_eq_true, decide_eq_true_eq, beq_iff_eq, and_assoc])

theorem sopz_p (a : OpS) (ha : a.f.Ok) (k i : Int) : CallsP Tryz.prog 102 [.agg [.g (.int .i64 (a.kd)), .g (.int .i64 (a.id)), .g (.int .i64 (a.f.id)), .g (.int .i64 (a.f.kd)), .g (.int .i64 (a.f.x)), .g (.int .i64 (a.f.y)), .g (.int .i64 (a.f.r)), .lst 2 a.f.n (ptI a.f.P), .g (.int .i64 (a.f.d)), .g (.int .i64 (a.f.s)), .lst 6 a.f.m (ptI a.f.S), .g (.int .i64 (a.x)), .g (.int .i64 (a.y)), .g (.int .i64 (a.r)), .g (.int .i64 (a.d)), .g (.int .i64 (a.s))], .agg [.g (.int .i64 k), .g (.int .i64 i), .g (.int .i64 0), .g (.int .i64 0), .g (.int .i64 0), .g (.int .i64 0), .g (.int .i64 0), .g (.slice none 0 0), .g (.int .i64 0), .g (.int .i64 0), .g (.slice none 0 0), .g (.int .i64 0), .g (.int .i64 0), .g (.int .i64 0), .g (.int .i64 0), .g (.int .i64 0)]] (.t (.one (.g (.bool (sopB a (zOp k i)))))) := by
  exact (sop_p a (zOp k i) ha feat0_ok).eqv (by simp [zOp, feat0, All2, PT.eqv, IV.eqv]; exact ⟨fun i o _ _ => IV.eqv_refl _, fun i o _ _ => IV.eqv_refl _⟩) (PV.eqv_refl _)

set_option maxRecDepth 100000 in
set_option maxHeartbeats 4000000 in
theorem Op_p (o : OpS) (ho : o.f.Ok) : CallsP Tryz.prog 91 [.agg [.g (.int .i64 (o.kd)), .g (.int .i64 (o.id)), .g (.int .i64 (o.f.id)), .g (.int .i64 (o.f.kd)), .g (.int .i64 (o.f.x)), .g (.int .i64 (o.f.y)), .g (.int .i64 (o.f.r)), .lst 2 o.f.n (ptI o.f.P), .g (.int .i64 (o.f.d)), .g (.int .i64 (o.f.s)), .lst 6 o.f.m (ptI o.f.S), .g (.int .i64 (o.x)), .g (.int .i64 (o.y)), .g (.int .i64 (o.r)), .g (.int .i64 (o.d)), .g (.int .i64 (o.s))]] (.t (.one (.g (.bool (opB o))))) := by
  refine CallsP_of Tryz.func91 rfl (by rw [Tryz.ntmps91]; simp) ?_
  simp only [Tryz.ntmps91, List.map_cons, List.map_nil, PT.tv, argEnv, Nat.zero_add, Nat.reduceAdd]
  repeat' (first
 | ((with_reducible show AW _ _ _ _); first
 | (with_reducible refine AW_seq_k fun K hK => ?_)
 | (with_reducible refine AW_skip ?_)
 | (with_reducible refine AW_exit ?_)
 | (with_reducible refine AW_ret ?_)
 | (with_reducible refine AW_condI ?_)
 | (with_reducible refine AW_block ?_)
 | ((with_reducible show AW _ (Code.region _ _ _) _ _); first
 | (with_reducible refine AW_regionP 0 [0] ?_)
 | ((with_reducible refine AW_prune (c := Code.region 1 _ true) [1] ?_); (with_reducible refine AW_regionD ?_ ?_ ?_ ?_); (focus kernel_rfl); (focus kernel_rfl); (focus kernel_rfl))
 | (with_reducible refine AW_regionP 2 [] ?_)
 | (with_reducible refine AW_regionP 3 [1] ?_)
 | (with_reducible refine AW_regionP 4 [1, 23] ?_)
 | (with_reducible refine AW_regionP 5 [1] ?_)
 | (with_reducible refine AW_regionP 6 [1, 23] ?_)
 | (with_reducible refine AW_regionP 7 [] ?_)
 | (with_reducible refine AW_regionP 8 [1, 23] ?_)
 | (with_reducible refine AW_regionP 9 [1] ?_)
 | (with_reducible refine AW_regionP 10 [1, 23] ?_)
 | (with_reducible refine AW_regionP 11 [1] ?_)
 | (with_reducible refine AW_regionP 12 [1, 23] ?_)
 | (with_reducible refine AW_regionP 13 [1] ?_)
 | (with_reducible refine AW_regionP 14 [] ?_)))
 | ((first | (with_reducible refine And.intro ?_ ?_) | (with_reducible refine Need.mk ?_)); focus (first | exact True.intro | (with_reducible assumption) | omega | (refine ⟨?_, ?_⟩ <;> omega) | (intro _; first | exact True.intro | (with_reducible assumption) | omega) | (intros; (repeat' (first | exact True.intro | omega | (with_reducible assumption) | (with_reducible refine And.intro ?_ ?_))); done) | (simp (disch := omega) only [Bool.and_eq_true, Bool.or_eq_true, decide_eq_true_eq, bne_iff_ne, ne_eq] at *; first | done | omega | (intros; omega)) | (simp; done) | (simp; omega) | (simp +contextual; done) | (intro h; rw [h]; rfl) | (intro hq; have hq2 := hq; simp only [Bool.and_eq_true, Bool.or_eq_true, Bool.not_eq_true', Bool.not_not, Bool.not_eq_false', decide_eq_true_eq, decide_eq_false_iff_not] at hq2; (repeat' (first | exact hq | (with_reducible refine And.intro ?_ ?_) | omega | (simp_all; done))); done) | (intros; simp_all; done)))
 | (with_reducible refine retK_n ?_)
 | (with_reducible refine retK_n' ?_)
 | (with_reducible refine retH_n rfl rfl rfl ?_)
 | (with_reducible refine retH_n' rfl rfl rfl ?_)
 | ((with_reducible show condN _ _ _ _ _ _); first
 | ((with_reducible refine condN_t ?_ ?_) <;> (intro hc; (try simp only [Bool.and_eq_true, Bool.or_eq_true, Bool.not_eq_true', Bool.and_eq_false_iff, Bool.or_eq_false_iff, decide_eq_true_eq, decide_eq_false_iff_not, bne_iff_ne, beq_iff_eq, reduceCtorEq, bne_eq_false_iff_eq, beq_eq_false_iff_ne, Bool.not_eq_false', Int.not_le, Int.not_lt, Bool.not_not] at hc); (skip); (try (exfalso; first | contradiction | omega)))))
 | ((with_reducible refine And.intro ?_ ?_); focus ((with_reducible show chkR _ _ _ = true); kernel_rfl))
 | ((with_reducible show callDGN _ _ _ _ _ _ _ _ _ _ _ _ _); first
 | (refine callDGN_q (k := 103) fnok_103 (fun hg => bare_p o ho) ?_ ?_)
 | (refine callDGN_q (k := 102) fnok_102 (fun hg => sopz_p (bareO o) (bareO_ok ho) _ _) ?_ ?_))
 | ((with_reducible show callGN _ _ _ _ _ _ _ _ _ _); first
 | (refine callGN_q (k := 104) fnok_104 (fun hg => Feat_p _ ho) ?_ ?_)
 | (refine callGN_q (k := 105) fnok_105 (fun hg => ptV_p _ _) ?_ ?_)
 | (refine callGN_q (k := 106) fnok_106 (fun hg => nroom_p _ _ _ (by simp only [Bool.and_eq_true, decide_eq_true_eq] at hg; exact hg.2) (by simp only [Bool.and_eq_true, decide_eq_true_eq] at hg; omega)) ?_ ?_))
 | ((fail_if_success (with_reducible show AW _ _ _ _)); simp (maxSteps := 2000000) only [go_sem, reduceIte, reduceCtorEq, Nat.reduceAdd, Nat.reduceLT, Nat.reduceLeDiff, Nat.reduceEqDiff, Nat.reduceMul, Nat.reduceSub, Nat.reduceBEq, Tryz.f91, of_59_1, ty_3, ty_59, fnok_103, of_59_0, zc_59, fo_59, pl_59_0, pl_59_1, fnok_102, of_59_2, of_57_0, ty_57, fnok_104, of_59_4, of_59_3, ty_28, fnok_105, fnok_106, of_59_5, of_59_6])
 | ((with_reducible refine hK _ ?_); clear hK K))
  all_goals (first | exact op_f (by assumption) | exact op_1 (by assumption) (by assumption) | exact op_2 (by assumption) (by assumption) | exact op_3 (by assumption) (by assumption) | exact op_4 (by assumption) (by assumption) | exact op_5 (by assumption) (by assumption) | exact op_n (by omega) | skip)

end Go.Proofs.YtbckibbgajfihaaGreat
