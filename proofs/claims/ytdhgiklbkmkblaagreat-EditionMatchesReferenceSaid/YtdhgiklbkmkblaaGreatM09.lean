/- Part 9 of 16: contracts of functions and plain laws for the root text. No condition. -/
import Derived.Test.YtdhgiklbkmkblaaGreatM01
import Derived.Test.YtdhgiklbkmkblaaGreatM02
import Derived.Test.YtdhgiklbkmkblaaGreatM03
import Derived.Test.YtdhgiklbkmkblaaGreatM04
import Derived.Test.YtdhgiklbkmkblaaGreatM05
import Derived.Test.YtdhgiklbkmkblaaGreatM06
import Derived.Test.YtdhgiklbkmkblaaGreatM07
import Derived.Test.YtdhgiklbkmkblaaGreatM08
import Derived.Shelf.Small.Bits
import Derived.Shelf.Small.Wraps
import Derived.Shelf.Strconv.Itoa0
import Derived.Shelf.Sort.Plain
import Derived.Shelf.Slices.Turned
import Derived.Shelf.Slices.Reverse
import Derived.Shelf.Slices.Equal
import Derived.Ground.Names2Prog
import Derived.Shelf.Slices.Clone
import Derived.Shelf.Slices.SearchI
import Derived.Shelf.Slices.Cells
import Derived.Shelf.Slices.In.SortNone
import Derived.Shelf.Slices.Empties
import Derived.Shelf.Slices.Empties2
import Derived.Ground.SlgnProg
import Derived.Shelf.SlicesE.Reverse
import Derived.Shelf.SlicesE.Clone
import Derived.Test.YtdhgiklbkmkblaaGreatProg
set_option linter.unusedVariables false
set_option linter.unusedSimpArgs false
set_option maxRecDepth 100000
set_option maxHeartbeats 4000000
namespace Go.Proofs.YtdhgiklbkmkblaaGreat
open Go.RowKit Go.Sea
open Nat renaming reduceAdd → xA, reduceLT → xL, reduceLeDiff → xD, reduceEqDiff → xE, reduceMul → xM, reduceSub → xS, reduceBEq → xB
theorem fnok_113 : fnOk Tryz.prog 113 = true := by kernel_rfl
theorem fnok_150 : fnOk Tryz.prog 150 = true := by kernel_rfl
theorem fnok_151 : fnOk Tryz.prog 151 = true := by kernel_rfl
theorem fnok_152 : fnOk Tryz.prog 152 = true := by kernel_rfl
theorem fnok_74 : fnOk Tryz.prog 74 = true := by kernel_rfl
theorem fo_75 : fieldsOk Tryz.prog 75 = true := by kernel_rfl
theorem fo_91 : fieldsOk Tryz.prog 91 = true := by kernel_rfl
theorem of_91_0 : offOf Tryz.prog 91 0 = some 0 := by kernel_rfl
theorem of_91_1 : offOf Tryz.prog 91 1 = some 1 := by kernel_rfl
theorem of_91_2 : offOf Tryz.prog 91 2 = some 2 := by kernel_rfl
theorem of_91_3 : offOf Tryz.prog 91 3 = some 11 := by kernel_rfl
theorem of_91_4 : offOf Tryz.prog 91 4 = some 13 := by kernel_rfl
theorem of_91_5 : offOf Tryz.prog 91 5 = some 14 := by kernel_rfl
theorem of_91_6 : offOf Tryz.prog 91 6 = some 15 := by kernel_rfl
theorem pl_91_0 : placeF Tryz.prog 91 0 = some (0, 1) := by kernel_rfl
theorem pl_91_1 : placeF Tryz.prog 91 1 = some (1, 1) := by kernel_rfl
theorem ty_75 : tyD Tryz.prog 75 = some (true, 9) := by kernel_rfl
theorem ty_91 : tyD Tryz.prog 91 = some (true, 16) := by kernel_rfl
theorem zc_75 : zeroC Tryz.prog 75 = some [.iv (.g (.int .i64 0)), .iv (.g (.int .i64 0)), .iv (.g (.int .i64 0)), .iv (.g (.int .i64 0)), .iv (.g (.int .i64 0)), .iv (.g (.slice none 0 0)), .iv (.g (.int .i64 0)), .iv (.g (.int .i64 0)), .iv (.g (.slice none 0 0))] := by kernel_rfl
theorem zc_91 : zeroC Tryz.prog 91 = some [.iv (.g (.int .i64 0)), .iv (.g (.int .i64 0)), .iv (.g (.int .i64 0)), .iv (.g (.int .i64 0)), .iv (.g (.int .i64 0)), .iv (.g (.int .i64 0)), .iv (.g (.int .i64 0)), .iv (.g (.slice none 0 0)), .iv (.g (.int .i64 0)), .iv (.g (.int .i64 0)), .iv (.g (.slice none 0 0)), .iv (.g (.int .i64 0)), .iv (.g (.int .i64 0)), .iv (.g (.int .i64 0)), .iv (.g (.int .i64 0)), .iv (.g (.int .i64 0))] := by kernel_rfl
attribute [go_sem] fnok_113 fnok_150 fnok_151 fnok_152 fnok_74 fo_75 fo_91 of_91_0 of_91_1 of_91_2 of_91_3 of_91_4 of_91_5 of_91_6 pl_91_0 pl_91_1 ty_75 ty_91 zc_75 zc_91
structure OpS where
  kd : Int
  id : Int
  f : Feat
  x : Int
  y : Int
  r : Int
  d : Int
  s : Int
def feat0 : Feat := ⟨0, 0, 0, 0, 0, 0, fun _ _ => 0, 0, 0, 0, fun _ _ => 0⟩
def zOp (k i : Int) : OpS := ⟨k, i, feat0, 0, 0, 0, 0, 0⟩
def bareO (o : OpS) : OpS := if o.kd = 1 then ⟨o.kd, o.id, feat0, o.x, o.y, o.r, o.d, o.s⟩ else if o.kd = 3 then ⟨o.kd, o.id, o.f, 0, 0, 0, o.d, o.s⟩ else if o.kd = 4 then ⟨o.kd, o.id, o.f, o.x, o.y, o.r, 0, o.s⟩ else if o.kd = 5 then ⟨o.kd, o.id, o.f, o.x, o.y, o.r, o.d, 0⟩ else o
theorem feat0_ok : feat0.Ok := ⟨by simp [feat0], by simp [feat0]⟩
theorem bareO_ok {o : OpS} (h : o.f.Ok) : (bareO o).f.Ok := by
  unfold bareO; repeat' split
  all_goals first | exact feat0_ok | exact h
def zF (f : Feat) : Prop := f.id = 0 ∧ f.kd = 0 ∧ f.x = 0 ∧ f.y = 0 ∧ f.r = 0 ∧ f.d = 0 ∧ f.s = 0 ∧ f.n = 0 ∧ f.m = 0
instance (f : Feat) : Decidable (zF f) := by unfold zF; infer_instance
def opC (o : OpS) (pt rm fe : Bool) : Prop :=
  (1 ≤ o.id ∧ o.id ≤ 100000) ∧ (o.kd = 1 ∧ o.f.id = o.id ∧ fe = true ∧ o.x = 0 ∧ o.y = 0 ∧ o.r = 0 ∧ o.d = 0 ∧ o.s = 0 ∨ zF o.f ∧
    (o.kd = 2 ∧ o.x = 0 ∧ o.y = 0 ∧ o.r = 0 ∧ o.d = 0 ∧ o.s = 0 ∨ o.kd = 3 ∧ (0 ≤ o.r ∧ o.r ≤ 100000) ∧ pt = true ∧ rm = true ∧ o.d = 0 ∧ o.s = 0 ∨
     o.kd = 4 ∧ (0 ≤ o.d ∧ o.d ≤ 100000) ∧ o.x = 0 ∧ o.y = 0 ∧ o.r = 0 ∧ o.s = 0 ∨ o.kd = 5 ∧ (0 ≤ o.s ∧ o.s ≤ 999) ∧ o.x = 0 ∧ o.y = 0 ∧ o.r = 0 ∧ o.d = 0))
instance (o : OpS) (pt rm fe : Bool) : Decidable (opC o pt rm fe) := by unfold opC; infer_instance
def opB (o : OpS) : Bool := decide (opC o (ptB o.x o.y) (roomB o.x o.y o.r) (featB o.f))
def sopB (a b : OpS) : Bool := decide (a.kd = b.kd ∧ a.id = b.id ∧ a.x = b.x ∧ a.y = b.y ∧ a.r = b.r ∧ a.d = b.d ∧ a.s = b.s) && feqB a.f b.f
theorem eqLB_z {w n : Nat} {P Q : Nat → Nat → Int} : eqLB w n 0 P Q = true ↔ n = 0 := by
  unfold eqLB; rw [decide_eq_true_eq]
  exact ⟨fun h => h.1, fun h => ⟨h, fun i hi => by omega⟩⟩
theorem feqB_z (f : Feat) : feqB f feat0 = true ↔ zF f := by
  unfold feqB zF; simp only [Bool.and_eq_true, decide_eq_true_eq]; simp only [feat0, eqLB_z, and_assoc]
theorem bare_z (o : OpS) : sopB (bareO o) (zOp o.kd o.id) = true ↔ ((o.kd = 1 ∨ zF o.f) ∧ (o.kd = 3 ∨ (o.x = 0 ∧ o.y = 0 ∧ o.r = 0)) ∧ (o.kd = 4 ∨ o.d = 0) ∧ (o.kd = 5 ∨ o.s = 0)) := by
  have h0 : zF feat0 := ⟨rfl, rfl, rfl, rfl, rfl, rfl, rfl, rfl, rfl⟩
  unfold sopB; simp only [Bool.and_eq_true, decide_eq_true_eq]; simp only [zOp, feqB_z]
  unfold bareO
  by_cases h1 : o.kd = 1
  · simp [h1, h0, and_assoc]
  · by_cases h3 : o.kd = 3
    · simp [h3]
      generalize zF o.f = z at *; constructor <;> (intro h; simp_all)
    · by_cases h4 : o.kd = 4
      · simp [h4]
        generalize zF o.f = z at *; constructor <;> (intro h; simp_all)
      · by_cases h5 : o.kd = 5
        · simp [h5]
          generalize zF o.f = z at *; constructor <;> (intro h; simp_all)
        · simp [h1, h3, h4, h5]
          generalize zF o.f = z at *; constructor <;> (intro h; simp_all)
theorem bare_1 {o : OpS} (h : o.kd = 1) : bareO o = ⟨o.kd, o.id, feat0, o.x, o.y, o.r, o.d, o.s⟩ := by unfold bareO; rw [if_pos h]
theorem bare_3 {o : OpS} (h : o.kd = 3) : bareO o = ⟨o.kd, o.id, o.f, 0, 0, 0, o.d, o.s⟩ := by unfold bareO; rw [if_neg (by omega), if_pos h]
theorem bare_4 {o : OpS} (h : o.kd = 4) : bareO o = ⟨o.kd, o.id, o.f, o.x, o.y, o.r, 0, o.s⟩ := by unfold bareO; rw [if_neg (by omega), if_neg (by omega), if_pos h]
theorem bare_5 {o : OpS} (h : o.kd = 5) : bareO o = ⟨o.kd, o.id, o.f, o.x, o.y, o.r, o.d, 0⟩ := by unfold bareO; rw [if_neg (by omega), if_neg (by omega), if_neg (by omega), if_pos h]
theorem bare_n {o : OpS} (h : o.kd ≠ 1 ∧ o.kd ≠ 3 ∧ o.kd ≠ 4 ∧ o.kd ≠ 5) : bareO o = o := by unfold bareO; rw [if_neg h.1, if_neg h.2.1, if_neg h.2.2.1, if_neg h.2.2.2]
theorem op_iff (o : OpS) : opB o = true ↔ opC o (ptB o.x o.y) (roomB o.x o.y o.r) (featB o.f) := decide_eq_true_iff
def idO (o : OpS) : Prop := (1 ≤ o.id ∧ o.id ≤ 100000) ∧ sopB (bareO o) (zOp o.kd o.id) = true
theorem op_f {o : OpS} (h : (o.id < 1 ∨ o.id > 100000) ∨ sopB (bareO o) (zOp o.kd o.id) = false) : false = opB o := by
  refine Bool.eq_iff_iff.2 ?_
  rw [op_iff]
  refine ⟨fun g => (by cases g), fun g => ?_⟩
  exfalso
  obtain ⟨g1, g2⟩ := g
  have : sopB (bareO o) (zOp o.kd o.id) = true := by
    rw [bare_z]
    rcases g2 with g2 | ⟨gz, g2 | g2 | g2 | g2⟩
    · exact ⟨Or.inl g2.1, by omega, by omega, by omega⟩
    all_goals exact ⟨Or.inr gz, by omega, by omega, by omega⟩
  rcases h with h | h
  · omega
  · rw [this] at h; cases h
theorem op_1 {o : OpS} (h : idO o) (hk : o.kd = 1) : (o.f.id == o.id && featB o.f) = opB o := by
  obtain ⟨h1, h2⟩ := h; rw [bare_z] at h2
  refine Bool.eq_iff_iff.2 ?_
  rw [op_iff]; unfold opC; simp only [Bool.and_eq_true, beq_iff_eq]
  constructor
  · rintro ⟨g1, g2⟩; exact ⟨h1, Or.inl ⟨hk, g1, g2, by omega, by omega, by omega, by omega, by omega⟩⟩
  · rintro ⟨_, g | ⟨_, g | g | g | g⟩⟩
    · exact ⟨g.2.1, g.2.2.1⟩
    all_goals omega
theorem zf_o {o : OpS} (h2 : (o.kd = 1 ∨ zF o.f) ∧ (o.kd = 3 ∨ (o.x = 0 ∧ o.y = 0 ∧ o.r = 0)) ∧ (o.kd = 4 ∨ o.d = 0) ∧ (o.kd = 5 ∨ o.s = 0)) (hk : o.kd ≠ 1) : zF o.f := h2.1.resolve_left hk
theorem op_2 {o : OpS} (h : idO o) (hk : o.kd = 2) : true = opB o := by
  obtain ⟨h1, h2⟩ := h; rw [bare_z] at h2
  refine ((op_iff o).2 ⟨h1, Or.inr ⟨zf_o h2 (by omega), Or.inl (by omega)⟩⟩).symm
theorem op_3 {o : OpS} (h : idO o) (hk : o.kd = 3) : (decide (o.r ≥ 0) && decide (o.r ≤ 100000) && ptB o.x o.y && roomB o.x o.y o.r) = opB o := by
  obtain ⟨h1, h2⟩ := h; rw [bare_z] at h2
  refine Bool.eq_iff_iff.2 ?_
  rw [op_iff]; unfold opC; simp only [Bool.and_eq_true, decide_eq_true_eq]
  constructor
  · rintro ⟨⟨⟨g1, g2⟩, g3⟩, g4⟩; exact ⟨h1, Or.inr ⟨zf_o h2 (by omega), Or.inr (Or.inl ⟨hk, ⟨g1, g2⟩, g3, g4, by omega, by omega⟩)⟩⟩
  · rintro ⟨_, g | ⟨_, g | g | g | g⟩⟩
    · omega
    · omega
    · exact ⟨⟨⟨g.2.1.1, g.2.1.2⟩, g.2.2.1⟩, g.2.2.2.1⟩
    all_goals omega
theorem op_4 {o : OpS} (h : idO o) (hk : o.kd = 4) : (decide (o.d ≥ 0) && decide (o.d ≤ 100000)) = opB o := by
  obtain ⟨h1, h2⟩ := h; rw [bare_z] at h2
  refine Bool.eq_iff_iff.2 ?_
  rw [op_iff]; unfold opC; simp only [Bool.and_eq_true, decide_eq_true_eq]
  constructor
  · rintro ⟨g1, g2⟩; exact ⟨h1, Or.inr ⟨zf_o h2 (by omega), Or.inr (Or.inr (Or.inl ⟨hk, ⟨g1, g2⟩, by omega, by omega, by omega, by omega⟩))⟩⟩
  · rintro ⟨_, g | ⟨_, g | g | g | g⟩⟩ <;> omega
theorem op_5 {o : OpS} (h : idO o) (hk : o.kd = 5) : (decide (o.s ≥ 0) && decide (o.s ≤ 999)) = opB o := by
  obtain ⟨h1, h2⟩ := h; rw [bare_z] at h2
  refine Bool.eq_iff_iff.2 ?_
  rw [op_iff]; unfold opC; simp only [Bool.and_eq_true, decide_eq_true_eq]
  constructor
  · rintro ⟨g1, g2⟩; exact ⟨h1, Or.inr ⟨zf_o h2 (by omega), Or.inr (Or.inr (Or.inr ⟨hk, ⟨g1, g2⟩, by omega, by omega, by omega, by omega⟩))⟩⟩
  · rintro ⟨_, g | ⟨_, g | g | g | g⟩⟩ <;> omega
theorem op_n {o : OpS} (hk : o.kd ≠ 1 ∧ o.kd ≠ 2 ∧ o.kd ≠ 3 ∧ o.kd ≠ 4 ∧ o.kd ≠ 5) : false = opB o := by
  refine Bool.eq_iff_iff.2 ?_
  rw [op_iff]; unfold opC
  refine ⟨fun g => (by cases g), ?_⟩
  rintro ⟨_, g | ⟨_, g | g | g | g⟩⟩ <;> omega
theorem bare_p (o : OpS) (ho : o.f.Ok) : CallsP Tryz.prog 151 [.agg [.g (.int .i64 (o.kd)), .g (.int .i64 (o.id)), .g (.int .i64 (o.f.id)), .g (.int .i64 (o.f.kd)), .g (.int .i64 (o.f.x)), .g (.int .i64 (o.f.y)), .g (.int .i64 (o.f.r)), .lst 2 o.f.n (ptI o.f.P), .g (.int .i64 (o.f.d)), .g (.int .i64 (o.f.s)), .lst 6 o.f.m (ptI o.f.S), .g (.int .i64 (o.x)), .g (.int .i64 (o.y)), .g (.int .i64 (o.r)), .g (.int .i64 (o.d)), .g (.int .i64 (o.s))]] (.t (.agg [.g (.int .i64 ((bareO o).kd)), .g (.int .i64 ((bareO o).id)), .g (.int .i64 ((bareO o).f.id)), .g (.int .i64 ((bareO o).f.kd)), .g (.int .i64 ((bareO o).f.x)), .g (.int .i64 ((bareO o).f.y)), .g (.int .i64 ((bareO o).f.r)), .lst 2 (bareO o).f.n (ptI (bareO o).f.P), .g (.int .i64 ((bareO o).f.d)), .g (.int .i64 ((bareO o).f.s)), .lst 6 (bareO o).f.m (ptI (bareO o).f.S), .g (.int .i64 ((bareO o).x)), .g (.int .i64 ((bareO o).y)), .g (.int .i64 ((bareO o).r)), .g (.int .i64 ((bareO o).d)), .g (.int .i64 ((bareO o).s))])) := by
  refine CallsP_of Tryz.func151 rfl (by rw [Tryz.ntmps151]; simp) ?_
  simp only [Tryz.ntmps151, zM, PT.tv, argEnv, Nat.zero_add, Nat.reduceAdd]
  repeat' (first
 | ((with_reducible show AW _ _ _ _); first
 | (with_reducible first | refine aS (fun K hK => ?_) | refine aI ?_ | refine aT ?_ | refine aC ?_ | refine aB ?_)
 | (first
 | (with_reducible first | refine aP 0 [0] ?_ | refine aP 1 [1,2] ?_ | refine aP 2 [1,2,4] ?_ | refine aP 3 [1,2] ?_ | refine aP 4 [1,2,4] ?_ | refine aP 5 [1,2] ?_ | refine aP 6 [1,2,4] ?_ | refine aP 7 [1,2] ?_ | refine aP 8 [1,2,4] ?_ | refine aP 9 [1,2] ?_ | refine aP 10 [1,2] ?_)))
 | (with_reducible refine retK_n ?_)
 | ((with_reducible show condN _ _ _ _ _ _); first
 | ((with_reducible refine condN_t ?_ ?_) <;> (intro hc; (try simp only [zB, zC, reduceCtorEq] at hc); (try (exfalso; contradiction)))))
 | ((fail_if_success (with_reducible show AW _ _ _ _)); simp (maxSteps := 2000000) only [go_sem, reduceIte, reduceCtorEq, xA, xL, xD, xE, xM, xS, xB, Tryz.f151])
 | ((with_reducible refine hK _ ?_); clear hK K))
  all_goals ((first | rw [bare_1 (by assumption)] | rw [bare_3 (by assumption)] | rw [bare_4 (by assumption)] | rw [bare_5 (by assumption)] | rw [bare_n ⟨by assumption, by assumption, by assumption, by assumption⟩]); (repeat' (first | exact rfl | (with_reducible refine And.intro ?_ ?_) | (intro i q hi hq; exact IV.eqv_refl _))))
theorem sop_p (a b : OpS) (ha : a.f.Ok) (hb : b.f.Ok) : CallsP Tryz.prog 150 [.agg [.g (.int .i64 (a.kd)), .g (.int .i64 (a.id)), .g (.int .i64 (a.f.id)), .g (.int .i64 (a.f.kd)), .g (.int .i64 (a.f.x)), .g (.int .i64 (a.f.y)), .g (.int .i64 (a.f.r)), .lst 2 a.f.n (ptI a.f.P), .g (.int .i64 (a.f.d)), .g (.int .i64 (a.f.s)), .lst 6 a.f.m (ptI a.f.S), .g (.int .i64 (a.x)), .g (.int .i64 (a.y)), .g (.int .i64 (a.r)), .g (.int .i64 (a.d)), .g (.int .i64 (a.s))], .agg [.g (.int .i64 (b.kd)), .g (.int .i64 (b.id)), .g (.int .i64 (b.f.id)), .g (.int .i64 (b.f.kd)), .g (.int .i64 (b.f.x)), .g (.int .i64 (b.f.y)), .g (.int .i64 (b.f.r)), .lst 2 b.f.n (ptI b.f.P), .g (.int .i64 (b.f.d)), .g (.int .i64 (b.f.s)), .lst 6 b.f.m (ptI b.f.S), .g (.int .i64 (b.x)), .g (.int .i64 (b.y)), .g (.int .i64 (b.r)), .g (.int .i64 (b.d)), .g (.int .i64 (b.s))]] (.t (.one (.g (.bool (sopB a b))))) := by
  refine CallsP_of Tryz.func150 rfl (by rw [Tryz.ntmps150]; simp) ?_
  simp only [Tryz.ntmps150, zM, PT.tv, argEnv, Nat.zero_add, Nat.reduceAdd]
  repeat' (first
 | ((with_reducible show AW _ _ _ _); first
 | (with_reducible first | refine aS (fun K hK => ?_) | refine aT ?_)
 | (first
 | (with_reducible first | refine aP 0 [0,1] ?_ | refine aP 1 [2,3] ?_)))
 | (((with_reducible refine Need.mk ?_)); focus ((intro _; (with_reducible assumption))))
 | (with_reducible refine retK_n ?_)
 | ((with_reducible show callGN _ _ _ _ _ _ _ _ _ _); first
 | (refine callGN_q (k := 74) fnok_74 (fun hg => fsame_p _ _ ha hb) ?_ ?_))
 | ((fail_if_success (with_reducible show AW _ _ _ _)); simp (maxSteps := 2000000) only [go_sem, reduceIte, reduceCtorEq, xA, xL, xD, xE, xM, xS, xB, Tryz.f150, Go.Sea.cmpS])
 | ((with_reducible refine hK _ ?_); clear hK K))
  all_goals (unfold sopB; refine Bool.eq_iff_iff.2 ?_; simp only [Bool.and_eq_true, decide_eq_true_eq, beq_iff_eq, and_assoc])
theorem sopz_p (a : OpS) (ha : a.f.Ok) (k i : Int) : CallsP Tryz.prog 150 [.agg [.g (.int .i64 (a.kd)), .g (.int .i64 (a.id)), .g (.int .i64 (a.f.id)), .g (.int .i64 (a.f.kd)), .g (.int .i64 (a.f.x)), .g (.int .i64 (a.f.y)), .g (.int .i64 (a.f.r)), .lst 2 a.f.n (ptI a.f.P), .g (.int .i64 (a.f.d)), .g (.int .i64 (a.f.s)), .lst 6 a.f.m (ptI a.f.S), .g (.int .i64 (a.x)), .g (.int .i64 (a.y)), .g (.int .i64 (a.r)), .g (.int .i64 (a.d)), .g (.int .i64 (a.s))], .agg [.g (.int .i64 k), .g (.int .i64 i), .g (.int .i64 0), .g (.int .i64 0), .g (.int .i64 0), .g (.int .i64 0), .g (.int .i64 0), .g (.slice none 0 0), .g (.int .i64 0), .g (.int .i64 0), .g (.slice none 0 0), .g (.int .i64 0), .g (.int .i64 0), .g (.int .i64 0), .g (.int .i64 0), .g (.int .i64 0)]] (.t (.one (.g (.bool (sopB a (zOp k i)))))) := by
  exact (sop_p a (zOp k i) ha feat0_ok).eqv (by simp [zOp, feat0, All2, PT.eqv, IV.eqv]; exact ⟨fun i o _ _ => IV.eqv_refl _, fun i o _ _ => IV.eqv_refl _⟩) (PV.eqv_refl _)
theorem Op_p (o : OpS) (ho : o.f.Ok) : CallsP Tryz.prog 121 [.agg [.g (.int .i64 (o.kd)), .g (.int .i64 (o.id)), .g (.int .i64 (o.f.id)), .g (.int .i64 (o.f.kd)), .g (.int .i64 (o.f.x)), .g (.int .i64 (o.f.y)), .g (.int .i64 (o.f.r)), .lst 2 o.f.n (ptI o.f.P), .g (.int .i64 (o.f.d)), .g (.int .i64 (o.f.s)), .lst 6 o.f.m (ptI o.f.S), .g (.int .i64 (o.x)), .g (.int .i64 (o.y)), .g (.int .i64 (o.r)), .g (.int .i64 (o.d)), .g (.int .i64 (o.s))]] (.t (.one (.g (.bool (opB o))))) := by
  refine CallsP_of Tryz.func121 rfl (by rw [Tryz.ntmps121]; simp) ?_
  simp only [Tryz.ntmps121, zM, PT.tv, argEnv, Nat.zero_add, Nat.reduceAdd]
  repeat' (first
 | ((with_reducible show AW _ _ _ _); first
 | (with_reducible first | refine aS (fun K hK => ?_) | refine aI ?_ | refine aT ?_ | refine aC ?_ | refine aB ?_)
 | (first
 | (with_reducible refine aP 0 [0] ?_)
 | ((with_reducible refine aR (c := Code.region 1 _ true) [1] ?_); (with_reducible refine aD ?_ ?_ ?_ ?_); (focus kernel_rfl); (focus kernel_rfl); (focus kernel_rfl))
 | (with_reducible first | refine aP 2 [] ?_ | refine aP 3 [1] ?_ | refine aP 4 [1,23] ?_ | refine aP 5 [1] ?_ | refine aP 6 [1,23] ?_ | refine aP 7 [] ?_ | refine aP 8 [1,23] ?_ | refine aP 9 [1] ?_ | refine aP 10 [1,23] ?_ | refine aP 11 [1] ?_ | refine aP 12 [1,23] ?_ | refine aP 13 [1] ?_ | refine aP 14 [] ?_)))
 | ((first | (with_reducible refine And.intro ?_ ?_) | (with_reducible refine Need.mk ?_)); focus (first | (intro _; (with_reducible assumption)) | (simp; done)))
 | (with_reducible refine retK_n ?_)
 | ((with_reducible show condN _ _ _ _ _ _); first
 | ((with_reducible refine condN_t ?_ ?_) <;> (intro hc; (try simp only [zB, zC, reduceCtorEq] at hc); (try (exfalso; contradiction)))))
 | ((with_reducible refine And.intro ?_ ?_); focus ((with_reducible show chkR _ _ _ = true); kernel_rfl))
 | ((with_reducible show callDGN _ _ _ _ _ _ _ _ _ _ _ _ _); first
 | (refine callDGN_q (k := 151) fnok_151 (fun hg => bare_p o ho) ?_ ?_)
 | (refine callDGN_q (k := 150) fnok_150 (fun hg => sopz_p (bareO o) (bareO_ok ho) _ _) ?_ ?_))
 | ((with_reducible show callGN _ _ _ _ _ _ _ _ _ _); first
 | (refine callGN_q (k := 113) fnok_113 (fun hg => Feat_p _ ho) ?_ ?_)
 | (refine callGN_q (k := 145) fnok_145 (fun hg => ptV_p _ _) ?_ ?_)
 | (refine callGN_q (k := 152) fnok_152 (fun hg => nroom_p _ _ _ (by simp only [Bool.and_eq_true, decide_eq_true_eq] at hg; exact hg.2) (by simp only [Bool.and_eq_true, decide_eq_true_eq] at hg; omega)) ?_ ?_))
 | ((fail_if_success (with_reducible show AW _ _ _ _)); simp (maxSteps := 2000000) only [go_sem, reduceIte, reduceCtorEq, xA, xL, xD, xE, xM, xS, xB, Tryz.f121])
 | ((with_reducible refine hK _ ?_); clear hK K))
  all_goals (first | exact op_f (by assumption) | exact op_1 (by assumption) (by assumption) | exact op_2 (by assumption) (by assumption) | exact op_3 (by assumption) (by assumption) | exact op_4 (by assumption) (by assumption) | exact op_5 (by assumption) (by assumption) | exact op_n (by omega))
end Go.Proofs.YtdhgiklbkmkblaaGreat
set_option maxRecDepth 100000
set_option maxHeartbeats 4000000
namespace Go.Proofs.YtdhgiklbkmkblaaGreat
open Go.RowKit Go.Sea
open Nat renaming reduceAdd → xA, reduceLT → xL, reduceLeDiff → xD, reduceEqDiff → xE, reduceMul → xM, reduceSub → xS, reduceBEq → xB
theorem ar_46 : arD Tryz.prog 46 = none := by kernel_rfl
theorem fnok_119 : fnOk Tryz.prog 119 = true := by kernel_rfl
theorem fnok_120 : fnOk Tryz.prog 120 = true := by kernel_rfl
theorem fnok_121 : fnOk Tryz.prog 121 = true := by kernel_rfl
theorem fnok_128 : fnOk Tryz.prog 128 = true := by kernel_rfl
theorem fnok_149 : fnOk Tryz.prog 149 = true := by kernel_rfl
theorem fnok_92 : fnOk Tryz.prog 92 = true := by kernel_rfl
theorem le_46 : lenD Tryz.prog 46 = some true := by kernel_rfl
theorem of_58_0 : offOf Tryz.prog 58 0 = some 0 := by kernel_rfl
theorem of_58_1 : offOf Tryz.prog 58 1 = some 1 := by kernel_rfl
theorem of_58_2 : offOf Tryz.prog 58 2 = some 2 := by kernel_rfl
theorem sl_46 : slD Tryz.prog 46 = some (16, 160, 91) := by kernel_rfl
theorem ty_24 : tyD Tryz.prog 24 = some (false, 1) := by kernel_rfl
theorem ty_46 : tyD Tryz.prog 46 = some (false, 1) := by kernel_rfl
attribute [go_sem] ar_46 fnok_119 fnok_121 fnok_128 fnok_149 fnok_92 le_46 of_58_0 of_58_1 of_58_2 sl_46 ty_24 ty_46
def intI (s : Nat → Int) (i o : Nat) : IV := .g (.int .i64 (s i))
structure PartS where
  ch : Int
  q : Nat
  a : Nat → Int
  k : Nat
  o : Nat → OpS
structure NotS where
  oc : Int
  nu : Int
  kd : Int
  fr : Int
  un : Int
  ca : Int
  n : Nat
  p : Nat → PartS
structure PartS.Ok (p : PartS) : Prop where
  q : p.q ≤ 9223372036854775807
  k : p.k ≤ 9223372036854775807
  o : ∀ i, i < p.k → (p.o i).f.Ok
structure NotS.Ok (N : NotS) : Prop where
  n : N.n ≤ 9223372036854775807
  p : ∀ i, i < N.n → (N.p i).Ok
theorem op_ff {o : OpS} (h : ¬ opC o (ptB o.x o.y) (roomB o.x o.y o.r) (featB o.f)) : false = opB o := (decide_eq_false h).symm
theorem rop_t {o : OpS} (hid : 1 ≤ o.id ∧ o.id ≤ 100000) (hk : 1 ≤ o.kd ∧ o.kd ≤ 5) (hx : (o.kd = 1 ∧ featB o.f = true ∧ o.f.id = o.id) ∨ (o.kd ≠ 1 ∧ zF o.f)) (hy : (o.kd = 3 ∧ ptB o.x o.y = true ∧ roomB o.x o.y o.r = true ∧ 0 ≤ o.r ∧ o.r ≤ 100000) ∨ (o.kd ≠ 3 ∧ o.x = 0 ∧ o.y = 0 ∧ o.r = 0)) (hd : (0 ≤ o.d ∧ o.d ≤ 100000) ∧ (o.kd = 4 ∨ o.d = 0)) : (decide (o.s ≥ 0) && decide (o.s ≤ 999) && (o.kd == 5 || o.s == 0)) = opB o := by
  refine Bool.eq_iff_iff.2 ?_
  rw [op_iff]; unfold opC; simp only [Bool.and_eq_true, Bool.or_eq_true, decide_eq_true_eq, beq_iff_eq]
  constructor
  · rintro ⟨⟨g1, g2⟩, g3⟩
    refine ⟨hid, ?_⟩
    rcases hx with ⟨h1, h2, h3⟩ | ⟨h1, h2⟩
    · left
      rcases hy with hy | hy
      · omega
      · exact ⟨h1, h3, h2, hy.2.1, hy.2.2.1, hy.2.2.2, by omega, by omega⟩
    · right
      refine ⟨h2, ?_⟩
      rcases hy with hy | hy
      · exact Or.inr (Or.inl ⟨hy.1, hy.2.2.2, hy.2.1, hy.2.2.1, by omega, by omega⟩)
      · have : o.kd = 2 ∨ o.kd = 4 ∨ o.kd = 5 := by omega
        rcases this with k | k | k
        · exact Or.inl ⟨k, hy.2.1, hy.2.2.1, hy.2.2.2, by omega, by omega⟩
        · exact Or.inr (Or.inr (Or.inl ⟨k, hd.1, hy.2.1, hy.2.2.1, hy.2.2.2, by omega⟩))
        · exact Or.inr (Or.inr (Or.inr ⟨k, ⟨g1, g2⟩, hy.2.1, hy.2.2.1, hy.2.2.2, by omega⟩))
  · rintro ⟨_, g | ⟨_, g | g | g | g⟩⟩
    · exact ⟨⟨by omega, by omega⟩, by omega⟩
    · exact ⟨⟨by omega, by omega⟩, by omega⟩
    · exact ⟨⟨by omega, by omega⟩, by omega⟩
    · exact ⟨⟨by omega, by omega⟩, by omega⟩
    · exact ⟨⟨by omega, by omega⟩, by omega⟩
theorem rop_f3 {o : OpS} (hk : o.kd = 3) (hc : (((ptB o.x o.y = false ∨ o.r < 0) ∨ o.r > 100000) ∨ ¬(-1000000 ≤ o.x - o.r ∧ o.x + o.r ≤ 1000000)) ∨ ¬(-1000000 ≤ o.y - o.r ∧ o.y + o.r ≤ 1000000)) : false = opB o := by
  refine op_ff fun g => ?_
  obtain ⟨g1, g | ⟨gz, g | g | g | g⟩⟩ := g
  · omega
  · omega
  · have k1 := (ptB_iff _ _).1 g.2.2.1
    have k2 := (roomB_iff _ _ _).1 g.2.2.2.1
    rcases hc with (((hc | hc) | hc) | hc) | hc
    · rw [g.2.2.1] at hc; cases hc
    all_goals omega
  · omega
  · omega
theorem room_of {o : OpS} (hc : (((ptB o.x o.y = true ∧ 0 ≤ o.r) ∧ o.r ≤ 100000) ∧ -1000000 ≤ o.x - o.r ∧ o.x + o.r ≤ 1000000) ∧ -1000000 ≤ o.y - o.r ∧ o.y + o.r ≤ 1000000) : ptB o.x o.y = true ∧ roomB o.x o.y o.r = true ∧ 0 ≤ o.r ∧ o.r ≤ 100000 := by
  have k1 := (ptB_iff _ _).1 hc.1.1.1.1
  exact ⟨hc.1.1.1.1, (roomB_iff _ _ _).2 (by omega), hc.1.1.1.2, hc.1.1.2⟩
def oprG : OpS → Nat → IV
  | o, 0 => .g (.int .i64 (o.kd))
  | o, 1 => .g (.int .i64 (o.id))
  | o, 2 => .g (.int .i64 (o.f.id))
  | o, 3 => .g (.int .i64 (o.f.kd))
  | o, 4 => .g (.int .i64 (o.f.x))
  | o, 5 => .g (.int .i64 (o.f.y))
  | o, 6 => .g (.int .i64 (o.f.r))
  | o, 7 => .lst 2 o.f.n (ptI o.f.P)
  | o, 8 => .g (.int .i64 (o.f.d))
  | o, 9 => .g (.int .i64 (o.f.s))
  | o, 10 => .lst 6 o.f.m (ptI o.f.S)
  | o, 11 => .g (.int .i64 (o.x))
  | o, 12 => .g (.int .i64 (o.y))
  | o, 13 => .g (.int .i64 (o.r))
  | o, 14 => .g (.int .i64 (o.d))
  | o, _ + 15 => .g (.int .i64 (o.s))
def oprF (o : Nat → OpS) (i c : Nat) : IV := oprG (o i) c
theorem oprF0 (o : Nat → OpS) (i : Nat) : oprF o i 0 = .g (.int .i64 ((o i).kd)) := rfl
theorem oprF1 (o : Nat → OpS) (i : Nat) : oprF o i 1 = .g (.int .i64 ((o i).id)) := rfl
theorem oprF2 (o : Nat → OpS) (i : Nat) : oprF o i 2 = .g (.int .i64 ((o i).f.id)) := rfl
theorem oprF3 (o : Nat → OpS) (i : Nat) : oprF o i 3 = .g (.int .i64 ((o i).f.kd)) := rfl
theorem oprF4 (o : Nat → OpS) (i : Nat) : oprF o i 4 = .g (.int .i64 ((o i).f.x)) := rfl
theorem oprF5 (o : Nat → OpS) (i : Nat) : oprF o i 5 = .g (.int .i64 ((o i).f.y)) := rfl
theorem oprF6 (o : Nat → OpS) (i : Nat) : oprF o i 6 = .g (.int .i64 ((o i).f.r)) := rfl
theorem oprF7 (o : Nat → OpS) (i : Nat) : oprF o i 7 = .lst 2 (o i).f.n (ptI (o i).f.P) := rfl
theorem oprF8 (o : Nat → OpS) (i : Nat) : oprF o i 8 = .g (.int .i64 ((o i).f.d)) := rfl
theorem oprF9 (o : Nat → OpS) (i : Nat) : oprF o i 9 = .g (.int .i64 ((o i).f.s)) := rfl
theorem oprF10 (o : Nat → OpS) (i : Nat) : oprF o i 10 = .lst 6 (o i).f.m (ptI (o i).f.S) := rfl
theorem oprF11 (o : Nat → OpS) (i : Nat) : oprF o i 11 = .g (.int .i64 ((o i).x)) := rfl
theorem oprF12 (o : Nat → OpS) (i : Nat) : oprF o i 12 = .g (.int .i64 ((o i).y)) := rfl
theorem oprF13 (o : Nat → OpS) (i : Nat) : oprF o i 13 = .g (.int .i64 ((o i).r)) := rfl
theorem oprF14 (o : Nat → OpS) (i : Nat) : oprF o i 14 = .g (.int .i64 ((o i).d)) := rfl
theorem oprF15 (o : Nat → OpS) (i : Nat) : oprF o i 15 = .g (.int .i64 ((o i).s)) := rfl
attribute [go_sem] oprF0 oprF1 oprF2 oprF3 oprF4 oprF5 oprF6 oprF7 oprF8 oprF9 oprF10 oprF11 oprF12 oprF13 oprF14 oprF15
def partG : PartS → Nat → IV
  | p, 0 => .g (.int .i64 p.ch)
  | p, 1 => .lst 1 p.q (intI p.a)
  | p, _ + 2 => .lst 16 p.k (oprF p.o)
def partF (p : Nat → PartS) (i c : Nat) : IV := partG (p i) c
theorem partF0 (p : Nat → PartS) (i : Nat) : partF p i 0 = .g (.int .i64 (p i).ch) := rfl
theorem partF1 (p : Nat → PartS) (i : Nat) : partF p i 1 = .lst 1 (p i).q (intI (p i).a) := rfl
theorem partF2 (p : Nat → PartS) (i : Nat) : partF p i 2 = .lst 16 (p i).k (oprF (p i).o) := rfl
def noP (s : NotS) : PT := .agg [.g (.int .i64 s.oc), .g (.int .i64 s.nu), .g (.int .i64 s.kd), .g (.int .i64 s.fr), .g (.int .i64 s.un), .g (.int .i64 s.ca), .lst 3 s.n (partF s.p)]
attribute [go_sem] noP
attribute [go_sem] partF0 partF1 partF2
def aftO (a : Nat → Int) (nu : Int) (i : Nat) : Prop := 1 ≤ a i ∧ a i < nu ∧ (0 < i → a (i - 1) < a i)
def lstP (a : Nat → Int) (i : Nat) : Int := if i = 0 then 0 else a (i - 1)
theorem lstP_s (a : Nat → Int) (i : Nat) : lstP a (i + 1) = a i := by simp [lstP]
theorem lstP_nn {a : Nat → Int} {nu : Int} {i : Nat} (h : ∀ j, j < i → aftO a nu j) : 0 ≤ lstP a i := by
  unfold lstP; split
  · omega
  · have := (h (i - 1) (by omega)).1; omega
theorem aft_t {a : Nat → Int} {nu : Int} {i : Nat} (h : ∀ j, j < i → aftO a nu j) (h1 : lstP a i < a i) (h2 : a i < nu) : aftO a nu i := by
  have h0 := lstP_nn h
  refine ⟨by omega, h2, fun hi => ?_⟩
  unfold lstP at h1; rw [if_neg (by omega)] at h1; exact h1
theorem aft_f {a : Nat → Int} {nu : Int} {i : Nat} (h1 : a i ≤ lstP a i ∨ nu ≤ a i) : ¬ aftO a nu i := by
  rintro ⟨g1, g2, g3⟩
  unfold lstP at h1
  by_cases hi : i = 0
  · rw [if_pos hi] at h1; omega
  · rw [if_neg hi] at h1; have := g3 (by omega); omega
instance (a : Nat → Int) (nu : Int) (i : Nat) : Decidable (aftO a nu i) := by unfold aftO; infer_instance
def partO (p : PartS) (nu : Int) : Prop := ((1 ≤ p.ch ∧ p.ch ≤ 1000) ∧ p.q ≤ 100 ∧ p.k ≤ 100) ∧ (∀ i, i < p.q → aftO p.a nu i) ∧ ∀ i, i < p.k → opB (p.o i) = true
instance (p : PartS) (nu : Int) : Decidable (partO p nu) := by unfold partO; infer_instance
def partB (p : PartS) (nu : Int) : Bool := decide (partO p nu)
theorem part_f0 {p : PartS} {nu : Int} (h : ¬ ((1 ≤ p.ch ∧ p.ch ≤ 1000) ∧ p.q ≤ 100 ∧ p.k ≤ 100)) : false = partB p nu := (decide_eq_false fun g => h g.1).symm
theorem part_f1 {p : PartS} {nu : Int} {i : Nat} (hi : (i : Int) < p.q) (h : ¬ aftO p.a nu i) : false = partB p nu := (decide_eq_false fun g => h (g.2.1 i (by omega))).symm
theorem part_f2 {p : PartS} {nu : Int} {i : Nat} (hi : (i : Int) < p.k) (h : opB (p.o i) = false) : false = partB p nu := (decide_eq_false fun g => by rw [g.2.2 i (by omega)] at h; cases h).symm
theorem part_t {p : PartS} {nu : Int} {i j : Nat} (h : (1 ≤ p.ch ∧ p.ch ≤ 1000) ∧ p.q ≤ 100 ∧ p.k ≤ 100) (hi : (p.q : Int) ≤ i) (hai : ∀ i', i' < i → aftO p.a nu i') (hj : (p.k : Int) ≤ j) (haj : ∀ j', j' < j → opB (p.o j') = true) : true = partB p nu :=
  (decide_eq_true ⟨h, fun k hk => hai k (by omega), fun k hk => haj k (by omega)⟩).symm
def termO (n : NotS) : Prop := (n.kd = 1 ∨ n.kd = 3) ∧ n.un = 0 ∧ n.ca = 0 ∨ n.kd = 2 ∧ n.fr < n.un ∧ 0 ≤ n.un ∧ n.un ≤ 10000000 ∧ n.ca = 0 ∨ n.kd = 4 ∧ n.un = 0 ∧ 1 ≤ n.ca ∧ n.ca < n.nu ∧ n.n = 0
instance (n : NotS) : Decidable (termO n) := by unfold termO; infer_instance
def notH (n : NotS) : Prop := ((1 ≤ n.oc ∧ n.oc ≤ 20) ∧ (1 ≤ n.nu ∧ n.nu ≤ 10000) ∧ (0 ≤ n.fr ∧ n.fr ≤ 10000000)) ∧ termO n ∧ n.n ≤ 20
instance (n : NotS) : Decidable (notH n) := by unfold notH; infer_instance
def lstH (p : Nat → PartS) (i : Nat) : Int := if i = 0 then 0 else (p (i - 1)).ch
theorem lstH_s (p : Nat → PartS) (i : Nat) : lstH p (i + 1) = (p i).ch := by simp [lstH]
def npO (p : Nat → PartS) (nu : Int) (i : Nat) : Prop := (0 < i → (p (i - 1)).ch < (p i).ch) ∧ partB (p i) nu = true
instance (p : Nat → PartS) (nu : Int) (i : Nat) : Decidable (npO p nu i) := by unfold npO; infer_instance
def notB (n : NotS) : Bool := decide (notH n ∧ ∀ i, i < n.n → npO n.p n.nu i)
theorem part_ch {p : PartS} {nu : Int} (h : partB p nu = true) : 1 ≤ p.ch := (of_decide_eq_true h).1.1.1
theorem not_f0 {n : NotS} (h : ¬ notH n) : false = notB n := (decide_eq_false fun g => h g.1).symm
theorem not_f1 {n : NotS} {i : Nat} (hi : (i : Int) < n.n) (h : (n.p i).ch ≤ lstH n.p i ∨ partB (n.p i) n.nu = false) : false = notB n := (decide_eq_false fun g => by
  have g1 := g.2 i (by omega)
  have g2 := part_ch g1.2
  rcases h with h | h
  · unfold lstH at h
    by_cases h0 : i = 0
    · rw [if_pos h0] at h; omega
    · rw [if_neg h0] at h; have := g1.1 (by omega); omega
  · rw [g1.2] at h; cases h).symm
theorem np_t {p : Nat → PartS} {nu : Int} {i : Nat} (h1 : lstH p i < (p i).ch) (h2 : partB (p i) nu = true) : npO p nu i := by
  refine ⟨fun h0 => ?_, h2⟩
  unfold lstH at h1; rw [if_neg (by omega)] at h1; exact h1
theorem not_t {n : NotS} {i : Nat} (h : notH n) (hi : (n.n : Int) ≤ i) (hai : ∀ i', i' < i → npO n.p n.nu i') : true = notB n := (decide_eq_true ⟨h, fun k hk => hai k (by omega)⟩).symm
theorem rfsamez_p (f : Feat) (hf : f.Ok) : CallsP Tryz.prog 92 [.agg [.g (.int .i64 (f.id)), .g (.int .i64 (f.kd)), .g (.int .i64 (f.x)), .g (.int .i64 (f.y)), .g (.int .i64 (f.r)), .lst 2 f.n (ptI f.P), .g (.int .i64 (f.d)), .g (.int .i64 (f.s)), .lst 6 f.m (ptI f.S)], .agg [.g (.int .i64 0), .g (.int .i64 0), .g (.int .i64 0), .g (.int .i64 0), .g (.int .i64 0), .g (.slice none 0 0), .g (.int .i64 0), .g (.int .i64 0), .g (.slice none 0 0)]] (.t (.one (.g (.bool (decide (zF f)))))) := by
  have e : decide (zF f) = feqB f feat0 := by
    refine Bool.eq_iff_iff.2 ?_; rw [decide_eq_true_eq, feqB_z]
  rw [e]
  exact (rfsame_p f feat0 hf feat0_ok).eqv (by simp [feat0, All2, PT.eqv, IV.eqv]; exact ⟨fun i o _ _ => IV.eqv_refl _, fun i o _ _ => IV.eqv_refl _⟩) (PV.eqv_refl _)
theorem rOp_p (o : OpS) (ho : o.f.Ok) : CallsP Tryz.prog 129 [.agg [.g (.int .i64 (o.kd)), .g (.int .i64 (o.id)), .g (.int .i64 (o.f.id)), .g (.int .i64 (o.f.kd)), .g (.int .i64 (o.f.x)), .g (.int .i64 (o.f.y)), .g (.int .i64 (o.f.r)), .lst 2 o.f.n (ptI o.f.P), .g (.int .i64 (o.f.d)), .g (.int .i64 (o.f.s)), .lst 6 o.f.m (ptI o.f.S), .g (.int .i64 (o.x)), .g (.int .i64 (o.y)), .g (.int .i64 (o.r)), .g (.int .i64 (o.d)), .g (.int .i64 (o.s))]] (.t (.one (.g (.bool (opB o))))) := by
  refine CallsP_of Tryz.func129 rfl (by rw [Tryz.ntmps129]; simp) ?_
  simp only [Tryz.ntmps129, zM, PT.tv, argEnv, Nat.zero_add, Nat.reduceAdd]
  repeat' (first
 | ((with_reducible show AW _ _ _ _); first
 | (with_reducible first | refine aS (fun K hK => ?_) | refine aI ?_ | refine aT ?_ | refine aC ?_)
 | (first
 | (with_reducible first | refine aP 0 [0] ?_ | refine aP 1 [1] ?_ | refine aP 2 [] ?_ | refine aP 3 [1] ?_ | refine aP 4 [1] ?_ | refine aP 5 [] ?_ | refine aP 6 [1] ?_ | refine aP 7 [] ?_ | refine aP 8 [1] ?_ | refine aP 9 [1] ?_ | refine aP 10 [] ?_ | refine aP 11 [1] ?_ | refine aP 12 [] ?_ | refine aP 13 [1] ?_ | refine aP 14 [] ?_ | refine aP 15 [1] ?_)))
 | ((first | (with_reducible refine And.intro ?_ ?_) | (with_reducible refine Need.mk ?_)); focus (first | exact True.intro | (intro _; (with_reducible assumption)) | (simp; done) | (simp; omega)))
 | (with_reducible refine retK_n ?_)
 | ((with_reducible show condN _ _ _ _ _ _); first
 | ((with_reducible refine condN_t ?_ ?_) <;> (intro hc; (try simp only [zB, zC, reduceCtorEq] at hc); (try (exfalso; omega)))))
 | ((with_reducible show callN _ _ _ _ _ _ _ _ _ _); first
 | (refine callN_q (k := 128) fnok_128 (rFeat_p _ ho) ?_ ?_)
 | (refine callN_q (k := 92) fnok_92 (rfsamez_p _ ho) ?_ ?_)
 | (refine callN_q (k := 155) fnok_155 (rptV_p _ _) ?_ ?_))
 | ((with_reducible show callGN _ _ _ _ _ _ _ _ _ _); first
 | (refine callGN_q (k := 156) fnok_156 (fun hg => rroom_p o.x _ (by have h1 : ptB o.x o.y = true ∧ ¬ o.r < 0 ∧ ¬ o.r > 100000 := (by simp_all); have := (ptB_iff _ _).1 h1.1; omega) (by have h1 : ¬ o.r < 0 ∧ ¬ o.r > 100000 := (by simp_all); omega)) ?_ ?_)
 | (refine callGN_q (k := 156) fnok_156 (fun hg => rroom_p o.y _ (by have h1 : ptB o.x o.y = true ∧ ¬ o.r < 0 ∧ ¬ o.r > 100000 := (by simp_all); have := (ptB_iff _ _).1 h1.1; omega) (by have h1 : ¬ o.r < 0 ∧ ¬ o.r > 100000 := (by simp_all); omega)) ?_ ?_))
 | ((fail_if_success (with_reducible show AW _ _ _ _)); simp (maxSteps := 2000000) only [go_sem, reduceIte, reduceCtorEq, xA, xL, xD, xE, xM, xS, xB, Tryz.f129, Go.Sea.cmpS])
 | ((with_reducible refine hK _ ?_); clear hK K))
  all_goals (first | (refine op_ff fun g => ?_; obtain ⟨g1, g | ⟨gz, g | g | g | g⟩⟩ := g <;> first | omega | (simp_all; done)) | exact rop_f3 (by assumption) hc | exact rop_t (by omega) (by omega) (by (first | exact Or.inl ⟨by assumption, by assumption⟩ | exact Or.inr ⟨by assumption, by assumption⟩)) (by (first | exact Or.inl ⟨by assumption, room_of (by assumption)⟩ | exact Or.inr ⟨by assumption, by omega, by omega, by omega⟩)) hc)
theorem badop_p (o : OpS) (ho : o.f.Ok) : CallsP Tryz.prog 120 [.agg [.g (.int .i64 (o.kd)), .g (.int .i64 (o.id)), .g (.int .i64 (o.f.id)), .g (.int .i64 (o.f.kd)), .g (.int .i64 (o.f.x)), .g (.int .i64 (o.f.y)), .g (.int .i64 (o.f.r)), .lst 2 o.f.n (ptI o.f.P), .g (.int .i64 (o.f.d)), .g (.int .i64 (o.f.s)), .lst 6 o.f.m (ptI o.f.S), .g (.int .i64 (o.x)), .g (.int .i64 (o.y)), .g (.int .i64 (o.r)), .g (.int .i64 (o.d)), .g (.int .i64 (o.s))]] (.t (.one (.g (.bool (!opB o))))) := by
  refine CallsP_of Tryz.func120 rfl (by rw [Tryz.ntmps120]; simp) ?_
  simp only [Tryz.ntmps120, zM, PT.tv, argEnv, Nat.zero_add, Nat.reduceAdd]
  repeat' (first
 | ((with_reducible show AW _ _ _ _); first
 | (with_reducible first | refine aS (fun K hK => ?_) | refine aT ?_)
 | (first
 | (with_reducible first | refine aP 0 [0] ?_ | refine aP 1 [1] ?_)))
 | (((with_reducible refine Need.mk ?_)); focus (exact True.intro))
 | (with_reducible refine retK_n ?_)
 | ((with_reducible show callN _ _ _ _ _ _ _ _ _ _); first
 | (refine callN_q (k := 121) fnok_121 (Op_p _ ho) ?_ ?_))
 | ((fail_if_success (with_reducible show AW _ _ _ _)); simp (maxSteps := 2000000) only [go_sem, reduceIte, reduceCtorEq, xA, xL, xD, xE, xM, xS, xB, Tryz.f120])
 | ((with_reducible refine hK _ ?_); clear hK K))
theorem part_p (p : PartS) (nu : Int) (hp : p.Ok) : CallsP Tryz.prog 81 [.agg [.g (.int .i64 p.ch), .lst 1 p.q (intI p.a), .lst 16 p.k (oprF p.o)], .one (.g (.int .i64 nu))] (.t (.one (.g (.bool (partB p nu))))) := by
  have hpq := hp.q
  have hpk := hp.k
  refine CallsP_of Tryz.func81 rfl (by rw [Tryz.ntmps81]; simp) ?_
  simp only [Tryz.ntmps81, zM, PT.tv, argEnv, Nat.zero_add, Nat.reduceAdd]
  repeat' (first
 | ((with_reducible show AW _ _ _ _); first
 | (with_reducible first | refine aS (fun K hK => ?_) | refine aI ?_ | refine aX ?_ | refine aT ?_ | refine aC ?_ | refine aB ?_)
 | (first
 | (with_reducible first | refine aP 0 [0,1] ?_ | refine aP (ops := #[⟨some 8, _, _, _, _, _⟩, _, _, _, _, _, _, _, _, _, _, _, _, _, _, _, _, _, _, _]) 1 [1,2] ?_ | refine aP (ops := #[⟨some 5, _, _, _, _, _⟩, _, _, _, _]) 1 [0,1] ?_ | refine aP (ops := #[⟨some 6, _, _, _, _, _⟩, _, _]) 1 [0,1] ?_ | refine aP (ops := #[⟨some 4, _, _, _, _, _⟩]) 2 [] ?_ | refine aP (ops := #[⟨some 9, _, _, _, _, _⟩]) 2 [0,1,7,8] ?_ | refine aP (ops := #[⟨some 5, _, _, _, _, _⟩]) 3 [1,2] ?_ | refine aP (ops := #[⟨some 10, _, _, _, _, _⟩, _]) 3 [0,1,7,8] ?_ | refine aP (ops := #[⟨some 28, _, _, _, _, _⟩, _, _, _]) 4 [1,2,5] ?_ | refine aP (ops := #[⟨some 11, _, _, _, _, _⟩, _, _, _, _, _]) 4 [0,1,5,7,8] ?_ | refine aP (ops := #[⟨some 32, _, _, _, _, _⟩]) 5 [1,2,5,29,30,31] ?_ | refine aP (ops := #[⟨some 17, _, _, _, _, _⟩, _]) 5 [5] ?_ | refine aP (ops := #[⟨some 33, _, _, _, _, _⟩, _, _]) 6 [1,2,5,29,30,31] ?_ | refine aP (ops := #[⟨some 18, _, _, _, _, _⟩, _]) 6 [0,1,7,8] ?_ | refine aP (ops := #[⟨some 35, _, _, _, _, _⟩, _, _, _, _, _, _, _]) 7 [1,2,5,7,29,30,31] ?_ | refine aP (ops := #[⟨some 4, _, _, _, _, _⟩]) 7 [] ?_ | refine aP 8 [] ?_ | refine aP 9 [1,2,7,29,30,31] ?_ | refine aP 10 [1,2,5,29,30,31] ?_ | refine aP 11 [2] ?_))
 | ((with_reducible show AW _ (Code.loop _) _ _); first
 | ((with_reducible refine aL (c := (Code.seq (Code.region 5 _ _) _)) (ι := Nat) [1,2,29,30] (fun i => [(5, iA .i64 (lstP p.a i)), (31, iA .i64 (i : Int))]) (fun i => []) (fun i => i ≤ p.q ∧ (∀ i', i' < i → aftO p.a nu i')) (fun i => p.q - i) 0 ?lg5 ?l15 ?l25 ?li5 ?lr5); (case' lg5 => rintro i _); (case' li5 => try (exact ⟨Nat.zero_le _, fun i hi => absurd hi (Nat.not_lt_zero _)⟩)); (case' lr5 => rintro i ⟨hi, hai⟩ KR hR5; simp only [keepE, hupd, hset, lk, if_true, if_false, xE, reduceIte, zN, lstP_s]))
 | ((with_reducible refine aL (c := (Code.seq (Code.region 2 _ _) _)) (ι := Nat) [0,1,7] (fun j => [(8, iA .i64 (j : Int))]) (fun j => []) (fun j => j ≤ p.k ∧ (∀ j', j' < j → opB (p.o j') = true)) (fun j => p.k - j) 0 ?lg2 ?l12 ?l22 ?li2 ?lr2); (case' lg2 => rintro j _); (case' li2 => try (exact ⟨Nat.zero_le _, fun i hi => absurd hi (Nat.not_lt_zero _)⟩)); (case' lr2 => rintro j ⟨hj, haj⟩ KR hR2; simp only [keepE, hupd, hset, lk, if_true, if_false, xE, reduceIte, zN, lstP_s]))))
 | ((first | (with_reducible refine And.intro ?_ ?_) | (with_reducible refine Need.mk ?_)); focus (first | exact True.intro | omega | (simp; done)))
 | (with_reducible refine retK_n ?_)
 | ((with_reducible show condN _ _ _ _ _ _); first
 | ((with_reducible refine condN_t ?_ ?_) <;> (intro hc; (try simp only [zB, zC, reduceCtorEq] at hc); (try (exfalso; contradiction)))))
 | ((with_reducible show callN _ _ _ _ _ _ _ _ _ _); first
 | (refine callN_q (k := 120) fnok_120 (badop_p _ (hp.o _ (by omega))) ?_ ?_)
 | ((refine callN_i (k := 119) Tryz.func119 rfl fnok_119 (by rw [Tryz.ntmps119]; simp) ?_ ?_ (fun K hK => ?_)); (focus (exact True.intro)); (focus ((simp [lsF]; done))); simp only [Tryz.ntmps119, List.map_cons, List.map_nil, List.nil_append, List.cons_append, List.append_nil, LV.tv, argEnv, Nat.zero_add, Nat.reduceAdd])
 | ((refine callN_i (k := 149) Tryz.func149 rfl fnok_149 (by rw [Tryz.ntmps149]; simp) ?_ ?_ (fun K hK => ?_)); (focus (exact True.intro)); (focus ((simp [lsF]; done))); simp only [Tryz.ntmps149, List.map_cons, List.map_nil, List.nil_append, List.cons_append, List.append_nil, LV.tv, argEnv, Nat.zero_add, Nat.reduceAdd]))
 | ((with_reducible refine hR5 _ (i + 1) ?_); (try clear hR5 KR))
 | ((with_reducible refine hR2 _ (j + 1) ?_); (try clear hR2 KR))
 | ((with_reducible refine Told.mk ?_); simp only [go_sem, reduceIte, reduceCtorEq, xA, xL, xD, xE, xM, xS, xB, intI, lstP_s] <;> ((((try simp (disch := omega) only [seaWrap, Int.natCast_add, Int.cast_ofNat_Int, and_true, true_and, and_self]); (repeat' (first | omega | rfl | (with_reducible refine And.intro ?_ ?_) | (exact all_succ (by assumption) (by assumption)) | ((exact all_succ (by assumption) (aft_t (by assumption) (by omega) (by omega)))))); done))))
 | ((fail_if_success (with_reducible show AW _ _ _ _)); simp (maxSteps := 2000000) only [go_sem, reduceIte, reduceCtorEq, xA, xL, xD, xE, xM, xS, xB, Tryz.f81, Tryz.f119, Tryz.f149, intI, lstP_s])
 | ((with_reducible refine hK _ ?_); clear hK K)
 | (with_reducible apply_assumption -exfalso only [*]))
  all_goals (first | exact part_f0 (by omega) | exact part_f1 (by assumption) (aft_f (by omega)) | exact part_f2 (by assumption) (by assumption) | exact part_t (by omega) (by assumption) hai (by assumption) haj)
end Go.Proofs.YtdhgiklbkmkblaaGreat
set_option maxRecDepth 100000
set_option maxHeartbeats 4000000
namespace Go.Proofs.YtdhgiklbkmkblaaGreat
open Go.RowKit Go.Sea
open Nat renaming reduceAdd → xA, reduceLT → xL, reduceLeDiff → xD, reduceEqDiff → xE, reduceMul → xM, reduceSub → xS, reduceBEq → xB
theorem ar_28 : arD Tryz.prog 28 = none := by kernel_rfl
theorem fnok_79 : fnOk Tryz.prog 79 = true := by kernel_rfl
theorem fnok_80 : fnOk Tryz.prog 80 = true := by kernel_rfl
theorem fnok_81 : fnOk Tryz.prog 81 = true := by kernel_rfl
theorem le_28 : lenD Tryz.prog 28 = some true := by kernel_rfl
theorem of_30_0 : offOf Tryz.prog 30 0 = some 0 := by kernel_rfl
theorem of_30_1 : offOf Tryz.prog 30 1 = some 1 := by kernel_rfl
theorem of_30_2 : offOf Tryz.prog 30 2 = some 2 := by kernel_rfl
theorem of_30_3 : offOf Tryz.prog 30 3 = some 3 := by kernel_rfl
theorem of_30_4 : offOf Tryz.prog 30 4 = some 4 := by kernel_rfl
theorem of_30_5 : offOf Tryz.prog 30 5 = some 5 := by kernel_rfl
theorem of_30_6 : offOf Tryz.prog 30 6 = some 6 := by kernel_rfl
theorem sl_28 : slD Tryz.prog 28 = some (3, 56, 58) := by kernel_rfl
theorem ty_28 : tyD Tryz.prog 28 = some (false, 1) := by kernel_rfl
theorem ty_30 : tyD Tryz.prog 30 = some (true, 7) := by kernel_rfl
theorem ty_58 : tyD Tryz.prog 58 = some (true, 3) := by kernel_rfl
theorem zc_58 : zeroC Tryz.prog 58 = some [.iv (.g (.int .i64 0)), .iv (.g (.slice none 0 0)), .iv (.g (.slice none 0 0))] := by kernel_rfl
attribute [go_sem] ar_28 fnok_79 fnok_80 fnok_81 le_28 of_30_0 of_30_1 of_30_2 of_30_3 of_30_4 of_30_5 of_30_6 sl_28 ty_28 ty_30 ty_58 zc_58
theorem notH_i {n : NotS} : notH n ↔ (((1 ≤ n.oc ∧ n.oc ≤ 20) ∧ (1 ≤ n.nu ∧ n.nu ≤ 10000) ∧ (0 ≤ n.fr ∧ n.fr ≤ 10000000)) ∧ termO n ∧ n.n ≤ 20) := Iff.rfl
theorem notH_t {n : NotS} (h : (((((1 ≤ n.oc ∧ n.oc ≤ 20) ∧ 1 ≤ n.nu) ∧ n.nu ≤ 10000) ∧ 0 ≤ n.fr ∧ n.fr ≤ 10000000) ∧ termO n) ∧ (n.n : Int) ≤ 20) : notH n := ⟨⟨h.1.1.1.1.1, ⟨h.1.1.1.1.2, h.1.1.1.2⟩, h.1.1.2⟩, h.1.2, by omega⟩
theorem notH_f {n : NotS} (h : (((((n.oc < 1 ∨ n.oc > 20) ∨ n.nu < 1) ∨ n.nu > 10000) ∨ ¬ (0 ≤ n.fr ∧ n.fr ≤ 10000000)) ∨ ¬ termO n) ∨ (n.n : Int) > 20) : false = notB n := not_f0 fun g => by
  have g1 := g.1
  have g2 := g.2.1
  have g3 := g.2.2
  rcases h with (h | h) | h
  · omega
  · exact h g2
  · omega
theorem moment_p (t : Int) : CallsP Tryz.prog 79 [.one (.g (.int .i64 t))] (.t (.one (.g (.bool (decide (0 ≤ t ∧ t ≤ 10000000)))))) := by
  refine CallsP_of Tryz.func79 rfl (by rw [Tryz.ntmps79]; simp) ?_
  simp only [Tryz.ntmps79, zM, PT.tv, argEnv, Nat.zero_add, Nat.reduceAdd]
  repeat' (first
 | ((with_reducible show AW _ _ _ _); first
 | (with_reducible first | refine aS (fun K hK => ?_) | refine aT ?_)
 | (first
 | (with_reducible first | refine aP 0 [0] ?_ | refine aP 1 [0] ?_)))
 | (with_reducible refine retK_n ?_)
 | ((fail_if_success (with_reducible show AW _ _ _ _)); simp (maxSteps := 2000000) only [go_sem, reduceIte, reduceCtorEq, xA, xL, xD, xE, xM, xS, xB, Tryz.f79])
 | ((with_reducible refine hK _ ?_); clear hK K))
  all_goals ((try refine Bool.eq_iff_iff.2 ?_); (simp only [Bool.and_eq_true, Bool.or_eq_true, Bool.not_eq_true', decide_eq_true_eq, decide_eq_false_iff_not, bne_iff_ne, beq_iff_eq, ne_eq, ge_iff_le, gt_iff_lt, cond_eq_ite, iff_self, eq_self]; done))
theorem term_p (n : NotS) (ho : n.Ok) : CallsP Tryz.prog 80 [(noP n)] (.t (.one (.g (.bool (decide (termO n)))))) := by
  refine CallsP_of Tryz.func80 rfl (by rw [Tryz.ntmps80]; simp) ?_
  simp only [noP, Tryz.ntmps80, zM, PT.tv, argEnv, Nat.zero_add, Nat.reduceAdd]
  repeat' (first
 | ((with_reducible show AW _ _ _ _); first
 | (with_reducible first | refine aS (fun K hK => ?_) | refine aI ?_ | refine aT ?_ | refine aC ?_ | refine aB ?_)
 | (first
 | (with_reducible first | refine aP 0 [0] ?_ | refine aP 1 [1] ?_ | refine aP 2 [1,4] ?_ | refine aP 3 [1,4] ?_ | refine aP 4 [1] ?_ | refine aP 5 [1,4] ?_ | refine aP 6 [1] ?_ | refine aP 7 [1,4] ?_ | refine aP 8 [1] ?_ | refine aP 9 [] ?_)))
 | (((with_reducible refine Need.mk ?_)); focus ((intro _; (with_reducible assumption))))
 | (with_reducible refine retK_n ?_)
 | ((with_reducible show condN _ _ _ _ _ _); first
 | ((with_reducible refine condN_t ?_ ?_) <;> (intro hc; (try simp only [zB, zC, reduceCtorEq] at hc); (try (exfalso; contradiction)))))
 | ((with_reducible show callGN _ _ _ _ _ _ _ _ _ _); first
 | (refine callGN_q (k := 79) fnok_79 (fun hg => moment_p _) ?_ ?_))
 | ((fail_if_success (with_reducible show AW _ _ _ _)); simp (maxSteps := 2000000) only [go_sem, reduceIte, reduceCtorEq, xA, xL, xD, xE, xM, xS, xB, Tryz.f80])
 | ((with_reducible refine hK _ ?_); clear hK K))
  all_goals ((refine Bool.eq_iff_iff.2 ?_; simp only [Bool.and_eq_true, beq_iff_eq, decide_eq_true_eq, reduceCtorEq, false_iff]; unfold termO; omega))
theorem Not_p (n : NotS) (ho : n.Ok) : CallsP Tryz.prog 42 [(noP n)] (.t (.one (.g (.bool (notB n))))) := by
  have hnn := ho.n
  refine CallsP_of Tryz.func42 rfl (by rw [Tryz.ntmps42]; simp) ?_
  simp only [noP, Tryz.ntmps42, zM, PT.tv, argEnv, Nat.zero_add, Nat.reduceAdd]
  repeat' (first
 | ((with_reducible show AW _ _ _ _); first
 | (with_reducible first | refine aS (fun K hK => ?_) | refine aI ?_ | refine aX ?_ | refine aT ?_ | refine aC ?_ | refine aB ?_)
 | (first
 | (with_reducible first | refine aP 0 [0] ?_ | refine aP 1 [1] ?_ | refine aP 2 [] ?_ | refine aP 3 [1] ?_ | refine aP 4 [1,3] ?_ | refine aP 5 [1,3,42,43,44] ?_ | refine aP 6 [1,3,42,43,44] ?_ | refine aP 7 [1,3,5,42,43,44] ?_ | refine aP 8 [] ?_ | refine aP 9 [1,5,42,43,44] ?_ | refine aP 10 [1,3,42,43,44] ?_ | refine aP 11 [] ?_))
 | ((with_reducible show AW _ (Code.loop _) _ _); first
 | ((with_reducible refine aL (c := (Code.seq (Code.region 5 _ _) _)) (ι := Nat) [1,42,43] (fun i => [(3, iA .i64 (lstH n.p i)), (44, iA .i64 (i : Int))]) (fun i => []) (fun i => i ≤ n.n ∧ (∀ i', i' < i → npO n.p n.nu i')) (fun i => n.n - i) 0 ?lg5 ?l15 ?l25 ?li5 ?lr5); (case' lg5 => rintro i _); (case' li5 => try (exact ⟨Nat.zero_le _, fun i hi => absurd hi (Nat.not_lt_zero _)⟩)); (case' lr5 => rintro i ⟨hi, hai⟩ KR hR5; simp only [keepE, hupd, hset, lk, if_true, if_false, xE, reduceIte, zN, lstH_s]))))
 | ((first | (with_reducible refine And.intro ?_ ?_) | (with_reducible refine Need.mk ?_)); focus (first | omega | (intro _; (with_reducible assumption)) | (simp; done)))
 | (with_reducible refine retK_n ?_)
 | ((with_reducible show condN _ _ _ _ _ _); first
 | ((with_reducible refine condN_t ?_ ?_) <;> (intro hc; (try simp only [zB, zC, reduceCtorEq] at hc); (try (exfalso; contradiction)))))
 | ((with_reducible show callGN _ _ _ _ _ _ _ _ _ _); first
 | (refine callGN_q (k := 79) fnok_79 (fun hg => moment_p _) ?_ ?_)
 | (refine callGN_q (k := 80) fnok_80 (fun hg => term_p n ho) ?_ ?_)
 | (refine callGN_q (k := 81) fnok_81 (fun hg => part_p (n.p i) n.nu (ho.p i (by omega))) ?_ ?_))
 | ((with_reducible refine hR5 _ (i + 1) ?_); (try clear hR5 KR))
 | ((with_reducible refine Told.mk ?_); simp only [go_sem, reduceIte, reduceCtorEq, xA, xL, xD, xE, xM, xS, xB, intI, lstH_s] <;> ((((try simp (disch := omega) only [seaWrap, Int.natCast_add, Int.cast_ofNat_Int, and_true, true_and, and_self]); (repeat' (first | omega | rfl | (with_reducible refine And.intro ?_ ?_) | ((exact all_succ (by assumption) (np_t hc.1 hc.2))))); done))))
 | ((fail_if_success (with_reducible show AW _ _ _ _)); simp (maxSteps := 2000000) only [go_sem, reduceIte, reduceCtorEq, xA, xL, xD, xE, xM, xS, xB, Tryz.f42, intI, lstH_s])
 | ((with_reducible refine hK _ ?_); clear hK K)
 | (with_reducible apply_assumption -exfalso only [*]))
  all_goals (first | exact notH_f hc | exact not_f1 (by assumption) hc | exact not_t (notH_t (by assumption)) (by assumption) hai)
end Go.Proofs.YtdhgiklbkmkblaaGreat
namespace Go.Proofs.YtdhgiklbkmkblaaGreat
open Go.RowKit Go.Sea
open Nat renaming reduceAdd → xA, reduceLT → xL, reduceLeDiff → xD, reduceEqDiff → xE, reduceMul → xM, reduceSub → xS, reduceBEq → xB
theorem ar_25 : arD Tryz.prog 25 = none := by kernel_rfl
theorem le_25 : lenD Tryz.prog 25 = some true := by kernel_rfl
theorem sl_25 : slD Tryz.prog 25 = some (9, 104, 75) := by kernel_rfl
attribute [go_sem] ar_25 le_25 sl_25
def featG : Feat → Nat → IV
  | f, 0 => .g (.int .i64 (f.id))
  | f, 1 => .g (.int .i64 (f.kd))
  | f, 2 => .g (.int .i64 (f.x))
  | f, 3 => .g (.int .i64 (f.y))
  | f, 4 => .g (.int .i64 (f.r))
  | f, 5 => .lst 2 f.n (ptI f.P)
  | f, 6 => .g (.int .i64 (f.d))
  | f, 7 => .g (.int .i64 (f.s))
  | f, _ + 8 => .lst 6 f.m (ptI f.S)
def featF (f : Nat → Feat) (i c : Nat) : IV := featG (f i) c
theorem featF0 (f : Nat → Feat) (i : Nat) : featF f i 0 = .g (.int .i64 ((f i).id)) := rfl
theorem featF1 (f : Nat → Feat) (i : Nat) : featF f i 1 = .g (.int .i64 ((f i).kd)) := rfl
theorem featF2 (f : Nat → Feat) (i : Nat) : featF f i 2 = .g (.int .i64 ((f i).x)) := rfl
theorem featF3 (f : Nat → Feat) (i : Nat) : featF f i 3 = .g (.int .i64 ((f i).y)) := rfl
theorem featF4 (f : Nat → Feat) (i : Nat) : featF f i 4 = .g (.int .i64 ((f i).r)) := rfl
theorem featF5 (f : Nat → Feat) (i : Nat) : featF f i 5 = .lst 2 (f i).n (ptI (f i).P) := rfl
theorem featF6 (f : Nat → Feat) (i : Nat) : featF f i 6 = .g (.int .i64 ((f i).d)) := rfl
theorem featF7 (f : Nat → Feat) (i : Nat) : featF f i 7 = .g (.int .i64 ((f i).s)) := rfl
theorem featF8 (f : Nat → Feat) (i : Nat) : featF f i 8 = .lst 6 (f i).m (ptI (f i).S) := rfl
attribute [go_sem] featF0 featF1 featF2 featF3 featF4 featF5 featF6 featF7 featF8
def lstI (f : Nat → Feat) (i : Nat) : Int := if i = 0 then 0 else (f (i - 1)).id
theorem lstI_s (f : Nat → Feat) (i : Nat) : lstI f (i + 1) = (f i).id := by simp [lstI]
def feaO (f : Nat → Feat) (i : Nat) : Prop := featB (f i) = true ∧ (0 < i → (f (i - 1)).id < (f i).id)
instance (f : Nat → Feat) (i : Nat) : Decidable (feaO f i) := by unfold feaO; infer_instance
def feaB (n : Nat) (f : Nat → Feat) : Bool := decide (n ≤ 300 ∧ ∀ i, i < n → feaO f i)
theorem feat_id {f : Feat} (h : featB f = true) : 1 ≤ f.id := ((feat_iff f).1 h).1.1
theorem fea_f {n : Nat} {f : Nat → Feat} {i : Nat} (hi : (i : Int) < n) (h : featB (f i) = false ∨ (f i).id ≤ lstI f i) : false = feaB n f := (decide_eq_false fun g => by
  have g1 := g.2 i (by omega)
  rcases h with h | h
  · rw [g1.1] at h; cases h
  · have := feat_id g1.1
    unfold lstI at h
    by_cases h0 : i = 0
    · rw [if_pos h0] at h; omega
    · rw [if_neg h0] at h; have := g1.2 (by omega); omega).symm
theorem fea_s {f : Nat → Feat} {i : Nat} (h : featB (f i) = true ∧ lstI f i < (f i).id) : feaO f i := by
  refine ⟨h.1, fun h0 => ?_⟩
  have := h.2
  unfold lstI at this; rw [if_neg (by omega)] at this; exact this
theorem fea_t {n : Nat} {f : Nat → Feat} {i : Nat} (hi : (n : Int) ≤ i) (g : ∀ i', i' < i → feaO f i') : decide ((n : Int) ≤ 300) = feaB n f := by
  unfold feaB; exact decide_eq_decide.2 ⟨fun h => ⟨by omega, fun k hk => g k (by omega)⟩, fun h => by omega⟩
theorem rfea_n {n : Nat} {f : Nat → Feat} (h : (n : Int) > 300) : false = feaB n f := (decide_eq_false fun g => by omega).symm
theorem rfea_f {n : Nat} {f : Nat → Feat} {i : Nat} (hi : (i : Int) < n) (h : featB (f i) = false ∨ (i : Int) > 0 ∧ (f i).id ≤ (f (i - 1)).id) : false = feaB n f := (decide_eq_false fun g => by
  have g1 := g.2 i (by omega)
  rcases h with h | h
  · rw [g1.1] at h; cases h
  · have := g1.2 (by omega); omega).symm
theorem rfea_t {n : Nat} {f : Nat → Feat} {i : Nat} (h : (n : Int) ≤ 300) (hi : (n : Int) ≤ i) (g : ∀ i', i' < i → feaO f i') : true = feaB n f := (decide_eq_true ⟨by omega, fun k hk => g k (by omega)⟩).symm
structure DatS where
  A : Int
  B : Int
  C : Int
  D : Int
  E : Int
  F : Int
  R : Int
def datO (m : DatS) : Prop := ((-2000000 ≤ m.A ∧ m.A ≤ 2000000) ∧ (-2000000 ≤ m.B ∧ m.B ≤ 2000000) ∧ (-2000000 ≤ m.D ∧ m.D ≤ 2000000) ∧ (-2000000 ≤ m.E ∧ m.E ≤ 2000000)) ∧ 250000000000 ≤ m.A * m.E - m.B * m.D ∧ (-100000 ≤ m.C ∧ m.C ≤ 100000) ∧ (-100000 ≤ m.F ∧ m.F ≤ 100000) ∧ (0 ≤ m.R ∧ m.R ≤ 1000)
instance (m : DatS) : Decidable (datO m) := by unfold datO; infer_instance
def datB (m : DatS) : Bool := decide (datO m)
structure ShtS where
  ch : Int
  sc : Int
  ed : Int
  m : DatS
  cap : Int
  q : Nat
  dn : Nat → Int
  n : Nat
  f : Nat → Feat
structure ShtS.Ok (s : ShtS) : Prop where
  q : s.q ≤ 9223372036854775807
  n : s.n ≤ 9223372036854775807
  f : ∀ i, i < s.n → (s.f i).Ok
def doneB (q : Nat) (a : Nat → Int) : Bool := decide (q ≤ 200 ∧ ∀ i, i < q → aftO a 10001 i)
def shtB (s : ShtS) : Bool := doneB s.q s.dn && decide ((1 ≤ s.ch ∧ s.ch ≤ 1000) ∧ (1 ≤ s.sc ∧ s.sc ≤ 1000) ∧ (1 ≤ s.ed ∧ s.ed ≤ 1000) ∧ (1 ≤ s.cap ∧ s.cap ≤ 100000)) && datB s.m && feaB s.n s.f
def shP (s : ShtS) : PT := .agg [.g (.int .i64 s.ch), .g (.int .i64 s.sc), .g (.int .i64 s.ed), .g (.int .i64 s.m.A), .g (.int .i64 s.m.B), .g (.int .i64 s.m.C), .g (.int .i64 s.m.D), .g (.int .i64 s.m.E), .g (.int .i64 s.m.F), .g (.int .i64 s.m.R), .g (.int .i64 s.cap), .lst 1 s.q (intI s.dn), .lst 9 s.n (featF s.f)]
attribute [go_sem] shP
set_option maxRecDepth 100000 in
set_option maxHeartbeats 4000000 in
theorem flist_p (n : Nat) (f : Nat → Feat) (hn : n ≤ 9223372036854775807) (hf : ∀ i, i < n → (f i).Ok) : CallsP Tryz.prog 71 [.one (.lst 9 n (featF f))] (.t (.one (.g (.bool (feaB n f))))) := by
  refine CallsP_of Tryz.func71 rfl (by rw [Tryz.ntmps71]; simp) ?_
  simp only [Tryz.ntmps71, zM, PT.tv, argEnv, Nat.zero_add, Nat.reduceAdd]
  repeat' (first
 | ((with_reducible show AW _ _ _ _); first
 | (with_reducible first | refine aS (fun K hK => ?_) | refine aI ?_ | refine aX ?_ | refine aT ?_ | refine aC ?_ | refine aB ?_)
 | (first
 | (with_reducible first | refine aP 0 [0] ?_ | refine aP 1 [0] ?_ | refine aP 2 [0,3] ?_ | refine aP 3 [0,3,6,7,8] ?_ | refine aP 4 [0,3,6,7,8] ?_ | refine aP 5 [0,3,5,6,7,8] ?_ | refine aP 6 [] ?_ | refine aP 7 [0,5,6,7,8] ?_ | refine aP 8 [0,3,6,7,8] ?_ | refine aP 9 [0] ?_))
 | ((with_reducible show AW _ (Code.loop _) _ _); first
 | ((with_reducible refine aL (c := (Code.seq (Code.region 3 _ _) _)) (ι := Nat) [0,6,7] (fun i => [(3, iA .i64 (lstI f i)), (8, iA .i64 (i : Int))]) (fun i => []) (fun i => i ≤ n ∧ (∀ i', i' < i → feaO f i')) (fun i => n - i) 0 ?lg3 ?l13 ?l23 ?li3 ?lr3); (case' lg3 => rintro i _); (case' li3 => try (exact ⟨Nat.zero_le _, fun i hi => absurd hi (Nat.not_lt_zero _)⟩)); (case' lr3 => rintro i ⟨hi, hai⟩ KR hR3; simp only [keepE, hupd, hset, lk, if_true, if_false, xE, reduceIte, zN, lstI_s]))))
 | ((first | (with_reducible refine And.intro ?_ ?_) | (with_reducible refine Need.mk ?_)); focus (first | exact True.intro | omega | (simp; done)))
 | (with_reducible refine retK_n ?_)
 | ((with_reducible show condN _ _ _ _ _ _); first
 | ((with_reducible refine condN_t ?_ ?_) <;> (intro hc; (try simp only [zB, zC, reduceCtorEq] at hc); (try (exfalso; contradiction)))))
 | ((with_reducible show callN _ _ _ _ _ _ _ _ _ _); first
 | (refine callN_q (k := 113) fnok_113 (Feat_p (f i) (hf i (by omega))) ?_ ?_))
 | ((with_reducible refine hR3 _ (i + 1) ?_); (try clear hR3 KR))
 | ((with_reducible refine Told.mk ?_); simp only [go_sem, reduceIte, reduceCtorEq, xA, xL, xD, xE, xM, xS, xB, lstI_s] <;> ((((try simp (disch := omega) only [seaWrap, Int.natCast_add, Int.cast_ofNat_Int, and_true, true_and, and_self]); (repeat' (first | omega | rfl | (with_reducible refine And.intro ?_ ?_) | ((exact all_succ (by assumption) (fea_s hc))))); done))))
 | ((fail_if_success (with_reducible show AW _ _ _ _)); simp (maxSteps := 2000000) only [go_sem, reduceIte, reduceCtorEq, xA, xL, xD, xE, xM, xS, xB, Tryz.f71, lstI_s])
 | ((with_reducible refine hK _ ?_); clear hK K)
 | (with_reducible apply_assumption -exfalso only [*]))
  all_goals first | exact fea_f (by assumption) hc | exact fea_t (by assumption) hai | skip
end Go.Proofs.YtdhgiklbkmkblaaGreat
set_option maxRecDepth 100000
set_option maxHeartbeats 4000000
namespace Go.Proofs.YtdhgiklbkmkblaaGreat
open Go.RowKit Go.Sea
open Nat renaming reduceAdd → xA, reduceLT → xL, reduceLeDiff → xD, reduceEqDiff → xE, reduceMul → xM, reduceSub → xS, reduceBEq → xB
theorem fnok_137 : fnOk Tryz.prog 137 = true := by kernel_rfl
theorem fnok_138 : fnOk Tryz.prog 138 = true := by kernel_rfl
theorem fnok_181 : fnOk Tryz.prog 181 = true := by kernel_rfl
attribute [go_sem] fnok_138 fnok_181
def chgE (f : Feat) (o : OpS) : Int := if (o.kd = 3 ∧ ((f.kd = 3 ∨ f.kd = 6) ∨ f.kd = 4 ∧ o.r ≠ 0)) ∨ (o.kd = 4 ∧ (f.kd = 4 ∨ f.kd = 6)) then 12 else 0
def chgF (f : Feat) (o : OpS) : Feat := if o.kd = 3 then { f with x := o.x, y := o.y, r := o.r } else if o.kd = 4 then { f with d := o.d } else if o.kd = 5 then { f with s := o.s } else f
def idx (L : List Feat) (k : Int) : Option Feat := L.find? fun f => f.id = k
def putL (L : List Feat) (f : Feat) : List Feat := L.filter (fun g => g.id < f.id) ++ f :: L.filter (fun g => f.id < g.id)
def cutL (L : List Feat) (k : Int) : List Feat := L.filter fun g => g.id ≠ k
def asc (L : List Feat) : Prop := L.Pairwise fun f g => f.id < g.id
def doL (L : List Feat) (o : OpS) : Int × List Feat :=
  if o.kd = 1 then (match idx L o.id with
    | some _ => (5, L)
    | none => if 300 ≤ L.length then (2, L) else (0, putL L o.f))
  else match idx L o.id with
    | none => (4, L)
    | some f => if o.kd = 2 then (0, cutL L o.id) else if chgE f o = 0 then (0, putL (cutL L o.id) (chgF f o)) else (chgE f o, L)
theorem chgF_id (f : Feat) (o : OpS) : (chgF f o).id = f.id := by
  unfold chgF; repeat' split
  all_goals rfl
theorem idx_some {L : List Feat} {k : Int} {f : Feat} (h : idx L k = some f) : f ∈ L ∧ f.id = k := by
  have h1 := List.find?_some h
  exact ⟨List.mem_of_find?_eq_some h, by simpa using h1⟩
theorem idx_none {L : List Feat} {k : Int} : idx L k = none ↔ ∀ f, f ∈ L → f.id ≠ k := by
  unfold idx; rw [List.find?_eq_none]; simp
theorem idx_mem {L : List Feat} (h : asc L) {f : Feat} (hf : f ∈ L) : idx L f.id = some f := by
  induction L with
  | nil => cases hf
  | cons g L ih =>
    have h1 := List.pairwise_cons.1 h
    unfold idx
    rw [List.find?_cons]
    rcases List.mem_cons.1 hf with e | e
    · subst e; simp
    · have := h1.1 f e
      rw [decide_eq_false (by omega)]
      exact ih h1.2 e
theorem asc_filter {L : List Feat} (h : asc L) (p : Feat → Bool) : asc (L.filter p) := List.Pairwise.filter p h
theorem asc_cut {L : List Feat} (h : asc L) (k : Int) : asc (cutL L k) := asc_filter h _
theorem asc_put {L : List Feat} (h : asc L) (f : Feat) : asc (putL L f) := by
  unfold putL asc
  rw [List.pairwise_append]
  refine ⟨asc_filter h _, List.pairwise_cons.2 ⟨fun g hg => ?_, asc_filter h _⟩, fun a ha b hb => ?_⟩
  · simpa using (List.mem_filter.1 hg).2
  · have h1 : a.id < f.id := by simpa using (List.mem_filter.1 ha).2
    rcases List.mem_cons.1 hb with e | e
    · subst e; exact h1
    · have h2 : f.id < b.id := by simpa using (List.mem_filter.1 e).2
      omega
theorem mem_put {L : List Feat} {f g : Feat} : g ∈ putL L f ↔ g = f ∨ (g ∈ L ∧ g.id ≠ f.id) := by
  unfold putL
  simp only [List.mem_append, List.mem_cons, List.mem_filter, decide_eq_true_eq]
  constructor
  · rintro (⟨h1, h2⟩ | h | ⟨h1, h2⟩)
    · exact Or.inr ⟨h1, by omega⟩
    · exact Or.inl h
    · exact Or.inr ⟨h1, by omega⟩
  · rintro (h | ⟨h1, h2⟩)
    · exact Or.inr (Or.inl h)
    · rcases Int.lt_or_lt_of_ne h2 with h3 | h3
      · exact Or.inl ⟨h1, h3⟩
      · exact Or.inr (Or.inr ⟨h1, h3⟩)
theorem mem_cut {L : List Feat} {k : Int} {g : Feat} : g ∈ cutL L k ↔ g ∈ L ∧ g.id ≠ k := by
  unfold cutL; simp [List.mem_filter]
theorem idx_put {L : List Feat} (h : asc L) (f : Feat) (k : Int) : idx (putL L f) k = if k = f.id then some f else idx L k := by
  by_cases hk : k = f.id
  · rw [if_pos hk, hk]; exact idx_mem (asc_put h f) (mem_put.2 (Or.inl rfl))
  · rw [if_neg hk]
    cases hi : idx L k with
    | none =>
      rw [idx_none] at hi ⊢
      intro g hg
      rcases mem_put.1 hg with e | e
      · subst e; exact fun h' => hk h'.symm
      · exact hi g e.1
    | some g =>
      obtain ⟨h1, h2⟩ := idx_some hi
      rw [← h2]
      exact idx_mem (asc_put h f) (mem_put.2 (Or.inr ⟨h1, by omega⟩))
theorem idx_cut {L : List Feat} (h : asc L) (c k : Int) : idx (cutL L c) k = if k = c then none else idx L k := by
  by_cases hk : k = c
  · rw [if_pos hk, hk, idx_none]
    intro g hg; exact (mem_cut.1 hg).2
  · rw [if_neg hk]
    cases hi : idx L k with
    | none =>
      rw [idx_none] at hi ⊢
      intro g hg; exact hi g (mem_cut.1 hg).1
    | some g =>
      obtain ⟨h1, h2⟩ := idx_some hi
      rw [← h2]
      exact idx_mem (asc_cut h c) (mem_cut.2 ⟨h1, by omega⟩)
theorem len_cut {L : List Feat} (h : asc L) {k : Int} {f : Feat} (hf : idx L k = some f) : (cutL L k).length + 1 = L.length := by
  induction L with
  | nil => simp [idx] at hf
  | cons g L ih =>
    have h1 := List.pairwise_cons.1 h
    unfold cutL
    rw [List.filter_cons]
    by_cases hg : g.id = k
    · have e : L.filter (fun g => decide (g.id ≠ k)) = L := List.filter_eq_self.2 fun a ha => by
        have := h1.1 a ha
        simp; omega
      rw [if_neg (by simp [hg]), e]; rfl
    · have hf' : idx L k = some f := by
        unfold idx at hf ⊢
        rw [List.find?_cons, decide_eq_false hg] at hf
        exact hf
      have := ih h1.2 hf'
      unfold cutL at this
      simp [hg]; simpa using this
theorem len_put {L : List Feat} {f : Feat} (hf : idx L f.id = none) : (putL L f).length = L.length + 1 := by
  have h := idx_none.1 hf
  clear hf
  unfold putL
  rw [List.length_append, List.length_cons]
  induction L with
  | nil => rfl
  | cons g L ih =>
    have h1 := h g (List.mem_cons_self ..)
    have h2 := ih fun a ha => h a (List.mem_cons_of_mem _ ha)
    rw [List.filter_cons, List.filter_cons]
    rcases Int.lt_or_lt_of_ne h1 with h3 | h3
    · have h4 : ¬ f.id < g.id := by omega
      simp [h3, h4] at h2 ⊢; omega
    · have h4 : ¬ g.id < f.id := by omega
      simp [h3, h4] at h2 ⊢; omega
theorem rise_eq : ∀ {l m : List Int}, l.Pairwise (· < ·) → m.Pairwise (· < ·) → (∀ x, x ∈ l ↔ x ∈ m) → l = m
  | [], [], _, _, _ => rfl
  | [], b :: m, _, _, h => absurd ((h b).2 (List.mem_cons_self ..)) (List.not_mem_nil)
  | a :: l, [], _, _, h => absurd ((h a).1 (List.mem_cons_self ..)) (List.not_mem_nil)
  | a :: l, b :: m, hl, hm, h => by
    have hl1 := List.pairwise_cons.1 hl
    have hm1 := List.pairwise_cons.1 hm
    have hab : a = b := by
      have h1 := (h a).1 (List.mem_cons_self ..)
      have h2 := (h b).2 (List.mem_cons_self ..)
      rcases List.mem_cons.1 h1 with e | e
      · exact e
      · rcases List.mem_cons.1 h2 with e2 | e2
        · exact e2.symm
        · have := hl1.1 b e2
          have := hm1.1 a e
          omega
    subst hab
    have : l = m := rise_eq hl1.2 hm1.2 fun x => by
      constructor
      · intro hx
        have h1 := hl1.1 x hx
        rcases List.mem_cons.1 ((h x).1 (List.mem_cons_of_mem _ hx)) with e | e
        · omega
        · exact e
      · intro hx
        have h1 := hm1.1 x hx
        rcases List.mem_cons.1 ((h x).2 (List.mem_cons_of_mem _ hx)) with e | e
        · omega
        · exact e
    rw [this]
theorem asc_ids {L : List Feat} (h : asc L) : (L.map (·.id)).Pairwise (· < ·) := List.pairwise_map.2 h
theorem keys_list {L : List Feat} (h : asc L) {ks : List Int} (hk : ks.Pairwise (· < ·)) (hm : ∀ x, x ∈ ks ↔ idx L x ≠ none) : ks = L.map (·.id) := by
  refine rise_eq hk (asc_ids h) fun x => ?_
  rw [hm]
  constructor
  · intro hx
    cases hi : idx L x with
    | none => exact absurd hi hx
    | some f => exact List.mem_map.2 ⟨f, idx_some hi⟩
  · intro hx
    obtain ⟨f, h1, h2⟩ := List.mem_map.1 hx
    rw [← h2, idx_mem h h1]; simp
theorem doL_asc {L : List Feat} (h : asc L) (o : OpS) : asc (doL L o).2 := by
  unfold doL
  repeat' split
  all_goals first | exact h | exact asc_put h _ | exact asc_cut h _ | exact asc_put (asc_cut h _) _
def opsB (k : Nat) (o : Nat → OpS) : Bool := decide (k ≤ 100 ∧ ∀ i, i < k → opB (o i) = true)
def bkO (f : Feat) (o : OpS) : OpS := if chgE f o ≠ 0 then ⟨o.kd, o.id, feat0, 0, 0, 0, 0, 0⟩ else if o.kd = 3 then ⟨o.kd, o.id, feat0, f.x, f.y, f.r, 0, 0⟩ else if o.kd = 4 then ⟨o.kd, o.id, feat0, 0, 0, 0, f.d, 0⟩ else ⟨o.kd, o.id, feat0, 0, 0, 0, 0, f.s⟩
def chgX (f : Feat) (o : OpS) : Feat := if chgE f o ≠ 0 then f else chgF f o
theorem chg_e {f : Feat} {o : OpS} (h : (o.kd = 3 ∧ ((f.kd = 3 ∨ f.kd = 6) ∨ f.kd = 4 ∧ o.r ≠ 0)) ∨ (o.kd = 4 ∧ (f.kd = 4 ∨ f.kd = 6))) : chgE f o = 12 ∧ chgX f o = f ∧ bkO f o = ⟨o.kd, o.id, feat0, 0, 0, 0, 0, 0⟩ := by
  have e : chgE f o = 12 := by unfold chgE; rw [if_pos h]
  exact ⟨e, by unfold chgX; rw [if_pos (by omega)], by unfold bkO; rw [if_pos (by omega)]⟩
theorem chg_0 {f : Feat} {o : OpS} (h : ¬ ((o.kd = 3 ∧ ((f.kd = 3 ∨ f.kd = 6) ∨ f.kd = 4 ∧ o.r ≠ 0)) ∨ (o.kd = 4 ∧ (f.kd = 4 ∨ f.kd = 6)))) : chgE f o = 0 ∧ chgX f o = chgF f o := by
  have e : chgE f o = 0 := by unfold chgE; rw [if_neg h]
  exact ⟨e, by unfold chgX; rw [if_neg (by omega)]⟩
theorem chg_3 {f : Feat} {o : OpS} (he : chgE f o = 0) (h : o.kd = 3) : chgF f o = { f with x := o.x, y := o.y, r := o.r } ∧ bkO f o = ⟨o.kd, o.id, feat0, f.x, f.y, f.r, 0, 0⟩ := ⟨by unfold chgF; rw [if_pos h], by unfold bkO; rw [if_neg (by omega), if_pos h]⟩
theorem chg_4 {f : Feat} {o : OpS} (he : chgE f o = 0) (h : o.kd = 4) : chgF f o = { f with d := o.d } ∧ bkO f o = ⟨o.kd, o.id, feat0, 0, 0, 0, f.d, 0⟩ := ⟨by unfold chgF; rw [if_neg (by omega), if_pos h], by unfold bkO; rw [if_neg (by omega), if_neg (by omega), if_pos h]⟩
theorem chg_5 {f : Feat} {o : OpS} (he : chgE f o = 0) (h : o.kd = 5) : chgF f o = { f with s := o.s } ∧ bkO f o = ⟨o.kd, o.id, feat0, 0, 0, 0, 0, f.s⟩ := ⟨by unfold chgF; rw [if_neg (by omega), if_neg (by omega), if_pos h], by unfold bkO; rw [if_neg (by omega), if_neg (by omega), if_neg (by omega)]⟩
theorem ppoly_p (f : Feat) (ho : f.Ok) : CallsP Tryz.prog 181 [.agg [.g (.int .i64 (f.id)), .g (.int .i64 (f.kd)), .g (.int .i64 (f.x)), .g (.int .i64 (f.y)), .g (.int .i64 (f.r)), .lst 2 f.n (ptI f.P), .g (.int .i64 (f.d)), .g (.int .i64 (f.s)), .lst 6 f.m (ptI f.S)]] (.t (.one (.g (.bool (decide (f.kd = 3 ∨ f.kd = 6)))))) := by
  refine CallsP_of Tryz.func181 rfl (by rw [Tryz.ntmps181]; simp) ?_
  simp only [Tryz.ntmps181, zM, PT.tv, argEnv, Nat.zero_add, Nat.reduceAdd]
  repeat' (first
 | ((with_reducible show AW _ _ _ _); first
 | (with_reducible first | refine aS (fun K hK => ?_) | refine aT ?_)
 | (first
 | (with_reducible first | refine aP 0 [0] ?_ | refine aP 1 [1] ?_)))
 | (((with_reducible refine And.intro ?_ ?_)); focus ((simp; done)))
 | (with_reducible refine retK_n ?_)
 | ((fail_if_success (with_reducible show AW _ _ _ _)); simp (maxSteps := 2000000) only [go_sem, reduceIte, reduceCtorEq, xA, xL, xD, xE, xM, xS, xB, Tryz.f181])
 | ((with_reducible refine hK _ ?_); clear hK K))
  all_goals ((try refine Bool.eq_iff_iff.2 ?_); (simp only [Bool.and_eq_true, Bool.or_eq_true, Bool.not_eq_true', decide_eq_true_eq, decide_eq_false_iff_not, bne_iff_ne, beq_iff_eq, ne_eq, ge_iff_le, gt_iff_lt, cond_eq_ite, iff_self, eq_self]; done))
theorem changed_3 (f : Feat) (o : OpS) (ho : f.Ok) (ho2 : o.f.Ok) (hk : o.kd = 3) : CallsP Tryz.prog 160 [.agg [.g (.int .i64 (f.id)), .g (.int .i64 (f.kd)), .g (.int .i64 (f.x)), .g (.int .i64 (f.y)), .g (.int .i64 (f.r)), .lst 2 f.n (ptI f.P), .g (.int .i64 (f.d)), .g (.int .i64 (f.s)), .lst 6 f.m (ptI f.S)], .agg [.g (.int .i64 (o.kd)), .g (.int .i64 (o.id)), .g (.int .i64 (o.f.id)), .g (.int .i64 (o.f.kd)), .g (.int .i64 (o.f.x)), .g (.int .i64 (o.f.y)), .g (.int .i64 (o.f.r)), .lst 2 o.f.n (ptI o.f.P), .g (.int .i64 (o.f.d)), .g (.int .i64 (o.f.s)), .lst 6 o.f.m (ptI o.f.S), .g (.int .i64 (o.x)), .g (.int .i64 (o.y)), .g (.int .i64 (o.r)), .g (.int .i64 (o.d)), .g (.int .i64 (o.s))]] (.tup [.agg [.g (.int .i64 ((chgX f o).id)), .g (.int .i64 ((chgX f o).kd)), .g (.int .i64 ((chgX f o).x)), .g (.int .i64 ((chgX f o).y)), .g (.int .i64 ((chgX f o).r)), .lst 2 (chgX f o).n (ptI (chgX f o).P), .g (.int .i64 ((chgX f o).d)), .g (.int .i64 ((chgX f o).s)), .lst 6 (chgX f o).m (ptI (chgX f o).S)], .agg [.g (.int .i64 ((bkO f o).kd)), .g (.int .i64 ((bkO f o).id)), .g (.int .i64 ((bkO f o).f.id)), .g (.int .i64 ((bkO f o).f.kd)), .g (.int .i64 ((bkO f o).f.x)), .g (.int .i64 ((bkO f o).f.y)), .g (.int .i64 ((bkO f o).f.r)), .lst 2 (bkO f o).f.n (ptI (bkO f o).f.P), .g (.int .i64 ((bkO f o).f.d)), .g (.int .i64 ((bkO f o).f.s)), .lst 6 (bkO f o).f.m (ptI (bkO f o).f.S), .g (.int .i64 ((bkO f o).x)), .g (.int .i64 ((bkO f o).y)), .g (.int .i64 ((bkO f o).r)), .g (.int .i64 ((bkO f o).d)), .g (.int .i64 ((bkO f o).s))], .one (.g (.int .i64 (chgE f o)))]) := by
  refine CallsP_of Tryz.func160 rfl (by rw [Tryz.ntmps160]; simp) ?_
  simp only [Tryz.ntmps160, zM, PT.tv, argEnv, Nat.zero_add, Nat.reduceAdd]
  repeat' (first
 | ((with_reducible show AW _ _ _ _); first
 | (with_reducible first | refine aS (fun K hK => ?_) | refine aI ?_ | refine aT ?_ | refine aC ?_ | refine aB ?_)
 | (first
 | (with_reducible first | refine aP 0 [0,1] ?_ | refine aP 1 [2,3,4,5] ?_ | refine aP 2 [2,3,4,5,7] ?_)
 | (with_reducible first | refine aP 4 [2,3,4,5,7,8] ?_ | refine aP 5 [2,3,4,5,7,8] ?_)
 | ((with_reducible refine aR (c := Code.region 6 _ true) [2,4,5,7] ?_); (with_reducible refine aD ?_ ?_ ?_ ?_); (focus kernel_rfl); (focus kernel_rfl); (focus kernel_rfl))
 | (with_reducible refine aP 7 [2,3,4,5,7] ?_)
 | ((with_reducible refine aR (c := Code.region 8 _ true) [2,3,4,5,7] ?_); (with_reducible refine aD ?_ ?_ ?_ ?_); (focus kernel_rfl); (focus kernel_rfl); (focus kernel_rfl))
 | ((with_reducible refine aR (c := Code.region 9 _ true) [2,3,4,5,7] ?_); (with_reducible refine aD ?_ ?_ ?_ ?_); (focus kernel_rfl); (focus kernel_rfl); (focus kernel_rfl))
 | ((with_reducible refine aR (c := Code.region 12 _ true) [2,4,5,7] ?_); (with_reducible refine aD ?_ ?_ ?_ ?_); (focus kernel_rfl); (focus kernel_rfl); (focus kernel_rfl))))
 | ((first | (with_reducible refine And.intro ?_ ?_) | (with_reducible refine Need.mk ?_)); focus (first | (intro _; (with_reducible assumption)) | (simp; omega)))
 | (with_reducible refine retK_n ?_)
 | ((with_reducible show condN _ _ _ _ _ _); first
 | ((with_reducible refine condN_t ?_ ?_) <;> (intro hc; (try simp only [zB, zC, reduceCtorEq] at hc); (try (exfalso; first | contradiction | omega)))))
 | ((with_reducible refine And.intro ?_ ?_); focus ((with_reducible show chkR _ _ _ = true); kernel_rfl))
 | ((with_reducible show callGN _ _ _ _ _ _ _ _ _ _); first
 | (refine callGN_q (k := 181) fnok_181 (fun hg => ppoly_p f ho) ?_ ?_))
 | ((fail_if_success (with_reducible show AW _ _ _ _)); simp (maxSteps := 2000000) only [go_sem, reduceIte, reduceCtorEq, xA, xL, xD, xE, xM, xS, xB, Tryz.f160])
 | ((with_reducible refine hK _ ?_); clear hK K))
  all_goals first
    | (have e := chg_e (f := f) (o := o) (by omega); rw [e.1, e.2.1, e.2.2]; repeat' (first | exact rfl | (with_reducible refine And.intro ?_ ?_) | (intro i q hi hq; exact IV.eqv_refl _)))
    | (have e0 := chg_0 (f := f) (o := o) (by omega); have e := chg_3 e0.1 (by omega); rw [e0.1, e0.2, e.1, e.2]; repeat' (first | exact rfl | (with_reducible refine And.intro ?_ ?_) | (intro i q hi hq; exact IV.eqv_refl _)))
    | (have e0 := chg_0 (f := f) (o := o) (by omega); have e := chg_4 e0.1 (by omega); rw [e0.1, e0.2, e.1, e.2]; repeat' (exact rfl))
    | (have e0 := chg_0 (f := f) (o := o) (by omega); have e := chg_5 e0.1 (by omega); rw [e0.1, e0.2, e.1, e.2]; repeat' (exact rfl))
    | skip
theorem changed_4 (f : Feat) (o : OpS) (ho : f.Ok) (ho2 : o.f.Ok) (hk : o.kd = 4) : CallsP Tryz.prog 160 [.agg [.g (.int .i64 (f.id)), .g (.int .i64 (f.kd)), .g (.int .i64 (f.x)), .g (.int .i64 (f.y)), .g (.int .i64 (f.r)), .lst 2 f.n (ptI f.P), .g (.int .i64 (f.d)), .g (.int .i64 (f.s)), .lst 6 f.m (ptI f.S)], .agg [.g (.int .i64 (o.kd)), .g (.int .i64 (o.id)), .g (.int .i64 (o.f.id)), .g (.int .i64 (o.f.kd)), .g (.int .i64 (o.f.x)), .g (.int .i64 (o.f.y)), .g (.int .i64 (o.f.r)), .lst 2 o.f.n (ptI o.f.P), .g (.int .i64 (o.f.d)), .g (.int .i64 (o.f.s)), .lst 6 o.f.m (ptI o.f.S), .g (.int .i64 (o.x)), .g (.int .i64 (o.y)), .g (.int .i64 (o.r)), .g (.int .i64 (o.d)), .g (.int .i64 (o.s))]] (.tup [.agg [.g (.int .i64 ((chgX f o).id)), .g (.int .i64 ((chgX f o).kd)), .g (.int .i64 ((chgX f o).x)), .g (.int .i64 ((chgX f o).y)), .g (.int .i64 ((chgX f o).r)), .lst 2 (chgX f o).n (ptI (chgX f o).P), .g (.int .i64 ((chgX f o).d)), .g (.int .i64 ((chgX f o).s)), .lst 6 (chgX f o).m (ptI (chgX f o).S)], .agg [.g (.int .i64 ((bkO f o).kd)), .g (.int .i64 ((bkO f o).id)), .g (.int .i64 ((bkO f o).f.id)), .g (.int .i64 ((bkO f o).f.kd)), .g (.int .i64 ((bkO f o).f.x)), .g (.int .i64 ((bkO f o).f.y)), .g (.int .i64 ((bkO f o).f.r)), .lst 2 (bkO f o).f.n (ptI (bkO f o).f.P), .g (.int .i64 ((bkO f o).f.d)), .g (.int .i64 ((bkO f o).f.s)), .lst 6 (bkO f o).f.m (ptI (bkO f o).f.S), .g (.int .i64 ((bkO f o).x)), .g (.int .i64 ((bkO f o).y)), .g (.int .i64 ((bkO f o).r)), .g (.int .i64 ((bkO f o).d)), .g (.int .i64 ((bkO f o).s))], .one (.g (.int .i64 (chgE f o)))]) := by
  refine CallsP_of Tryz.func160 rfl (by rw [Tryz.ntmps160]; simp) ?_
  simp only [Tryz.ntmps160, zM, PT.tv, argEnv, Nat.zero_add, Nat.reduceAdd]
  repeat' (first
 | ((with_reducible show AW _ _ _ _); first
 | (with_reducible first | refine aS (fun K hK => ?_) | refine aT ?_ | refine aC ?_ | refine aB ?_)
 | (first
 | (with_reducible first | refine aP 0 [0,1] ?_ | refine aP 1 [2,3,4,5] ?_ | refine aP 2 [2,3,4,5,7] ?_)
 | (with_reducible first | refine aP 4 [2,3,4,5,7,8] ?_ | refine aP 5 [2,3,4,5,7,8] ?_)
 | ((with_reducible refine aR (c := Code.region 6 _ true) [2,4,5,7] ?_); (with_reducible refine aD ?_ ?_ ?_ ?_); (focus kernel_rfl); (focus kernel_rfl); (focus kernel_rfl))
 | (with_reducible refine aP 7 [2,3,4,5,7] ?_)
 | (with_reducible refine aP 10 [2,3,4,5,7] ?_)
 | ((with_reducible refine aR (c := Code.region 11 _ true) [2,3,4,5,7] ?_); (with_reducible refine aD ?_ ?_ ?_ ?_); (focus kernel_rfl); (focus kernel_rfl); (focus kernel_rfl))
 | ((with_reducible refine aR (c := Code.region 12 _ true) [2,4,5,7] ?_); (with_reducible refine aD ?_ ?_ ?_ ?_); (focus kernel_rfl); (focus kernel_rfl); (focus kernel_rfl))))
 | ((first | (with_reducible refine And.intro ?_ ?_) | (with_reducible refine Need.mk ?_)); focus (first | (intro _; (with_reducible assumption)) | (simp; omega)))
 | (with_reducible refine retK_n ?_)
 | ((with_reducible show condN _ _ _ _ _ _); first
 | ((with_reducible refine condN_t ?_ ?_) <;> (intro hc; (try simp only [zB, zC, reduceCtorEq] at hc); (try (exfalso; first | contradiction | omega)))))
 | ((with_reducible refine And.intro ?_ ?_); focus ((with_reducible show chkR _ _ _ = true); kernel_rfl))
 | ((with_reducible show callGN _ _ _ _ _ _ _ _ _ _); first
 | (refine callGN_q (k := 181) fnok_181 (fun hg => ppoly_p f ho) ?_ ?_))
 | ((fail_if_success (with_reducible show AW _ _ _ _)); simp (maxSteps := 2000000) only [go_sem, reduceIte, reduceCtorEq, xA, xL, xD, xE, xM, xS, xB, Tryz.f160])
 | ((with_reducible refine hK _ ?_); clear hK K))
  all_goals first
    | (have e := chg_e (f := f) (o := o) (by omega); rw [e.1, e.2.1, e.2.2]; repeat' (first | exact rfl | (with_reducible refine And.intro ?_ ?_) | (intro i q hi hq; exact IV.eqv_refl _)))
    | (have e0 := chg_0 (f := f) (o := o) (by omega); have e := chg_3 e0.1 (by omega); rw [e0.1, e0.2, e.1, e.2]; repeat' (exact rfl))
    | (have e0 := chg_0 (f := f) (o := o) (by omega); have e := chg_4 e0.1 (by omega); rw [e0.1, e0.2, e.1, e.2]; repeat' (first | exact rfl | (with_reducible refine And.intro ?_ ?_) | (intro i q hi hq; exact IV.eqv_refl _)))
    | (have e0 := chg_0 (f := f) (o := o) (by omega); have e := chg_5 e0.1 (by omega); rw [e0.1, e0.2, e.1, e.2]; repeat' (exact rfl))
    | skip
theorem changed_5 (f : Feat) (o : OpS) (ho : f.Ok) (ho2 : o.f.Ok) (hk : o.kd = 5) : CallsP Tryz.prog 160 [.agg [.g (.int .i64 (f.id)), .g (.int .i64 (f.kd)), .g (.int .i64 (f.x)), .g (.int .i64 (f.y)), .g (.int .i64 (f.r)), .lst 2 f.n (ptI f.P), .g (.int .i64 (f.d)), .g (.int .i64 (f.s)), .lst 6 f.m (ptI f.S)], .agg [.g (.int .i64 (o.kd)), .g (.int .i64 (o.id)), .g (.int .i64 (o.f.id)), .g (.int .i64 (o.f.kd)), .g (.int .i64 (o.f.x)), .g (.int .i64 (o.f.y)), .g (.int .i64 (o.f.r)), .lst 2 o.f.n (ptI o.f.P), .g (.int .i64 (o.f.d)), .g (.int .i64 (o.f.s)), .lst 6 o.f.m (ptI o.f.S), .g (.int .i64 (o.x)), .g (.int .i64 (o.y)), .g (.int .i64 (o.r)), .g (.int .i64 (o.d)), .g (.int .i64 (o.s))]] (.tup [.agg [.g (.int .i64 ((chgX f o).id)), .g (.int .i64 ((chgX f o).kd)), .g (.int .i64 ((chgX f o).x)), .g (.int .i64 ((chgX f o).y)), .g (.int .i64 ((chgX f o).r)), .lst 2 (chgX f o).n (ptI (chgX f o).P), .g (.int .i64 ((chgX f o).d)), .g (.int .i64 ((chgX f o).s)), .lst 6 (chgX f o).m (ptI (chgX f o).S)], .agg [.g (.int .i64 ((bkO f o).kd)), .g (.int .i64 ((bkO f o).id)), .g (.int .i64 ((bkO f o).f.id)), .g (.int .i64 ((bkO f o).f.kd)), .g (.int .i64 ((bkO f o).f.x)), .g (.int .i64 ((bkO f o).f.y)), .g (.int .i64 ((bkO f o).f.r)), .lst 2 (bkO f o).f.n (ptI (bkO f o).f.P), .g (.int .i64 ((bkO f o).f.d)), .g (.int .i64 ((bkO f o).f.s)), .lst 6 (bkO f o).f.m (ptI (bkO f o).f.S), .g (.int .i64 ((bkO f o).x)), .g (.int .i64 ((bkO f o).y)), .g (.int .i64 ((bkO f o).r)), .g (.int .i64 ((bkO f o).d)), .g (.int .i64 ((bkO f o).s))], .one (.g (.int .i64 (chgE f o)))]) := by
  refine CallsP_of Tryz.func160 rfl (by rw [Tryz.ntmps160]; simp) ?_
  simp only [Tryz.ntmps160, zM, PT.tv, argEnv, Nat.zero_add, Nat.reduceAdd]
  repeat' (first
 | ((with_reducible show AW _ _ _ _); first
 | (with_reducible first | refine aS (fun K hK => ?_) | refine aT ?_ | refine aC ?_ | refine aB ?_)
 | (first
 | (with_reducible first | refine aP 0 [0,1] ?_ | refine aP 1 [2,3,4,5] ?_ | refine aP 2 [2,3,4,5,7] ?_)
 | ((with_reducible refine aR (c := Code.region 3 _ true) [2,3,4,5,7] ?_); (with_reducible refine aD ?_ ?_ ?_ ?_); (focus kernel_rfl); (focus kernel_rfl); (focus kernel_rfl))
 | (with_reducible first | refine aP 4 [2,3,4,5,7,8] ?_ | refine aP 5 [2,3,4,5,7,8] ?_)
 | (with_reducible refine aP 7 [2,3,4,5,7] ?_)
 | (with_reducible refine aP 10 [2,3,4,5,7] ?_)
 | ((with_reducible refine aR (c := Code.region 12 _ true) [2,4,5,7] ?_); (with_reducible refine aD ?_ ?_ ?_ ?_); (focus kernel_rfl); (focus kernel_rfl); (focus kernel_rfl))))
 | ((first | (with_reducible refine And.intro ?_ ?_) | (with_reducible refine Need.mk ?_)); focus (first | (intro _; (with_reducible assumption)) | (simp; omega)))
 | (with_reducible refine retK_n ?_)
 | ((with_reducible show condN _ _ _ _ _ _); first
 | ((with_reducible refine condN_t ?_ ?_) <;> (intro hc; (try simp only [zB, zC, reduceCtorEq] at hc); (try (exfalso; omega)))))
 | ((with_reducible refine And.intro ?_ ?_); focus ((with_reducible show chkR _ _ _ = true); kernel_rfl))
 | ((with_reducible show callGN _ _ _ _ _ _ _ _ _ _); first
 | (refine callGN_q (k := 181) fnok_181 (fun hg => ppoly_p f ho) ?_ ?_))
 | ((fail_if_success (with_reducible show AW _ _ _ _)); simp (maxSteps := 2000000) only [go_sem, reduceIte, reduceCtorEq, xA, xL, xD, xE, xM, xS, xB, Tryz.f160])
 | ((with_reducible refine hK _ ?_); clear hK K))
  all_goals first
    | (have e := chg_e (f := f) (o := o) (by omega); rw [e.1, e.2.1, e.2.2]; repeat' (exact rfl))
    | (have e0 := chg_0 (f := f) (o := o) (by omega); have e := chg_3 e0.1 (by omega); rw [e0.1, e0.2, e.1, e.2]; repeat' (exact rfl))
    | (have e0 := chg_0 (f := f) (o := o) (by omega); have e := chg_4 e0.1 (by omega); rw [e0.1, e0.2, e.1, e.2]; repeat' (exact rfl))
    | (have e0 := chg_0 (f := f) (o := o) (by omega); have e := chg_5 e0.1 (by omega); rw [e0.1, e0.2, e.1, e.2]; repeat' (first | exact rfl | (with_reducible refine And.intro ?_ ?_) | (intro i q hi hq; exact IV.eqv_refl _)))
    | skip
theorem pv_p (o : OpS) (ho : o.f.Ok) : CallsP Tryz.prog 138 [.agg [.g (.int .i64 (o.kd)), .g (.int .i64 (o.id)), .g (.int .i64 (o.f.id)), .g (.int .i64 (o.f.kd)), .g (.int .i64 (o.f.x)), .g (.int .i64 (o.f.y)), .g (.int .i64 (o.f.r)), .lst 2 o.f.n (ptI o.f.P), .g (.int .i64 (o.f.d)), .g (.int .i64 (o.f.s)), .lst 6 o.f.m (ptI o.f.S), .g (.int .i64 (o.x)), .g (.int .i64 (o.y)), .g (.int .i64 (o.r)), .g (.int .i64 (o.d)), .g (.int .i64 (o.s))]] (.t (.one (.g (.bool (opB o))))) := by
  refine CallsP_of Tryz.func138 rfl (by rw [Tryz.ntmps138]; simp) ?_
  simp only [Tryz.ntmps138, zM, PT.tv, argEnv, Nat.zero_add, Nat.reduceAdd]
  repeat' (first
 | ((with_reducible show AW _ _ _ _); first
 | (with_reducible first | refine aS (fun K hK => ?_) | refine aT ?_)
 | (first
 | (with_reducible first | refine aP 0 [0] ?_ | refine aP 1 [1] ?_)))
 | (((with_reducible refine Need.mk ?_)); focus (exact True.intro))
 | (with_reducible refine retK_n ?_)
 | ((with_reducible show callN _ _ _ _ _ _ _ _ _ _); first
 | (refine callN_q (k := 121) fnok_121 (Op_p _ ho) ?_ ?_))
 | ((fail_if_success (with_reducible show AW _ _ _ _)); simp (maxSteps := 2000000) only [go_sem, reduceIte, reduceCtorEq, xA, xL, xD, xE, xM, xS, xB, Tryz.f138])
 | ((with_reducible refine hK _ ?_); clear hK K))
theorem pbad_p (o : OpS) (ho : o.f.Ok) : CallsP Tryz.prog 137 [.agg [.g (.int .i64 (o.kd)), .g (.int .i64 (o.id)), .g (.int .i64 (o.f.id)), .g (.int .i64 (o.f.kd)), .g (.int .i64 (o.f.x)), .g (.int .i64 (o.f.y)), .g (.int .i64 (o.f.r)), .lst 2 o.f.n (ptI o.f.P), .g (.int .i64 (o.f.d)), .g (.int .i64 (o.f.s)), .lst 6 o.f.m (ptI o.f.S), .g (.int .i64 (o.x)), .g (.int .i64 (o.y)), .g (.int .i64 (o.r)), .g (.int .i64 (o.d)), .g (.int .i64 (o.s))]] (.t (.one (.g (.bool (!opB o))))) := by
  refine CallsP_of Tryz.func137 rfl (by rw [Tryz.ntmps137]; simp) ?_
  simp only [Tryz.ntmps137, zM, PT.tv, argEnv, Nat.zero_add, Nat.reduceAdd]
  repeat' (first
 | ((with_reducible show AW _ _ _ _); first
 | (with_reducible first | refine aS (fun K hK => ?_) | refine aT ?_)
 | (first
 | (with_reducible first | refine aP 0 [0] ?_ | refine aP 1 [1] ?_)))
 | (((with_reducible refine Need.mk ?_)); focus (exact True.intro))
 | (with_reducible refine retK_n ?_)
 | ((with_reducible show callN _ _ _ _ _ _ _ _ _ _); first
 | (refine callN_q (k := 138) fnok_138 (pv_p _ ho) ?_ ?_))
 | ((fail_if_success (with_reducible show AW _ _ _ _)); simp (maxSteps := 2000000) only [go_sem, reduceIte, reduceCtorEq, xA, xL, xD, xE, xM, xS, xB, Tryz.f137])
 | ((with_reducible refine hK _ ?_); clear hK K))
theorem callGK_u0 {P : Program} {gs : List (Option Nat)} {d : Option Tmp} {op : UnOp} {t : TypeId} {x : Operand} {ty : TypeId} {pos : String} {aft : Array Edge} {g : Option (Nat × Bool)} {os : List Oper} {s : AS} {K : AS → Prop} (h : arun P gs os (s.put d .any) K) :
    callGK P gs false ⟨d, .unOp op t x, ty, pos, aft, g⟩ os s K := by
  refine Or.inr ?_
  exact ⟨fun h => (by cases h), fun _ => h⟩
theorem pvalid_t (k : Nat) (o : Nat → OpS) (hk : k ≤ 9223372036854775807) (ho : ∀ i, i < k → (o i).f.Ok) (hd : decide ((k : Int) ≤ 100) = true) : CallsP Tryz.prog 107 [.one (.lst 16 k (oprF o))] (.t (.one (.g (.bool (opsB k o))))) := by
  have hd2 : k ≤ 100 := (by have := of_decide_eq_true hd; omega)
  refine CallsP_of Tryz.func107 rfl (by rw [Tryz.ntmps107]; simp) ?_
  simp only [Tryz.ntmps107, zM, PT.tv, argEnv, Nat.zero_add, Nat.reduceAdd]
  repeat' (first
 | ((with_reducible show AW _ _ _ _); first
 | (with_reducible first | refine aS (fun K hK => ?_) | refine aI ?_ | refine aX ?_ | refine aT ?_ | refine aC ?_ | refine aB ?_)
 | (first
 | (with_reducible first | refine aP 0 [0,1] ?_ | refine aP (ops := #[⟨some 3, _, _, _, _, _⟩, _, _, _, _, _, _, _, _]) 1 [0] ?_ | refine aP (ops := #[⟨some 5, _, _, _, _, _⟩, _, _, _, _]) 1 [0,1] ?_ | refine aP (ops := #[⟨some 6, _, _, _, _, _⟩, _, _]) 1 [0,1] ?_ | refine aP 2 [0,1,7,8] ?_ | refine aP 3 [0,1,7,8] ?_ | refine aP 4 [0,1,5,7,8] ?_ | refine aP 5 [5] ?_ | refine aP 6 [0,1,7,8] ?_ | refine aP 7 [] ?_))
 | ((with_reducible show AW _ (Code.loop _) _ _); first
 | ((with_reducible refine aL (c := (Code.seq (Code.region 2 _ _) _)) (ι := Nat) [0,1,7] (fun j => [(8, iA .i64 (j : Int))]) (fun j => []) (fun j => j ≤ k ∧ (∀ j', j' < j → opB (o j') = true)) (fun j => k - j) 0 ?lg2 ?l12 ?l22 ?li2 ?lr2); (case' lg2 => rintro j _); (case' li2 => try (exact ⟨Nat.zero_le _, fun i hi => absurd hi (Nat.not_lt_zero _)⟩)); (case' lr2 => rintro j ⟨hj, haj⟩ KR hR2; simp only [keepE, hupd, hset, lk, if_true, if_false, xE, reduceIte, zN, hd]))))
 | ((first | (with_reducible refine And.intro ?_ ?_) | (with_reducible refine Need.mk ?_)); focus (first | exact True.intro | omega))
 | (with_reducible refine retK_n ?_)
 | ((with_reducible show condN _ _ _ _ _ _); first
 | ((with_reducible refine condN_t ?_ ?_) <;> (intro hc; (try simp only [zB, zC, reduceCtorEq] at hc); (try (exfalso; contradiction)))))
 | ((with_reducible show callN _ _ _ _ _ _ _ _ _ _); first
 | (refine callN_q (k := 137) fnok_137 (pbad_p _ (ho _ (by omega))) ?_ ?_)
 | ((refine callN_i (k := 119) Tryz.func119 rfl fnok_119 (by rw [Tryz.ntmps119]; simp) ?_ ?_ (fun K hK => ?_)); (focus (exact True.intro)); (focus ((simp [lsF]; done))); simp only [Tryz.ntmps119, List.map_cons, List.map_nil, List.nil_append, List.cons_append, List.append_nil, LV.tv, argEnv, Nat.zero_add, Nat.reduceAdd])
 | ((refine callN_i (k := 149) Tryz.func149 rfl fnok_149 (by rw [Tryz.ntmps149]; simp) ?_ ?_ (fun K hK => ?_)); (focus (exact True.intro)); (focus ((simp [lsF]; done))); simp only [Tryz.ntmps149, List.map_cons, List.map_nil, List.nil_append, List.cons_append, List.append_nil, LV.tv, argEnv, Nat.zero_add, Nat.reduceAdd]))
 | ((with_reducible show callGN _ _ _ _ _ _ _ _ _ _); ((refine callGN_sq (k := 119) ?_ ?_) <;> (intro hc; (try simp only [zB, zC, reduceCtorEq] at hc); (try (exfalso; contradiction)))))
 | ((with_reducible refine hR2 _ (j + 1) ?_); (try clear hR2 KR))
 | ((with_reducible refine Told.mk ?_); simp only [go_sem, reduceIte, reduceCtorEq, xA, xL, xD, xE, xM, xS, xB, hd] <;> ((((try simp (disch := omega) only [seaWrap, Int.natCast_add, Int.cast_ofNat_Int, and_true, true_and, and_self]); (repeat' (first | omega | (with_reducible refine And.intro ?_ ?_) | (exact all_succ (by assumption) (by assumption)) )); done))))
 | ((fail_if_success (with_reducible show AW _ _ _ _)); simp (maxSteps := 2000000) only [go_sem, reduceIte, reduceCtorEq, xA, xL, xD, xE, xM, xS, xB, Tryz.f107, Tryz.f119, Tryz.f149, hd])
 | ((with_reducible refine hK _ ?_); clear hK K)
 | (with_reducible apply_assumption -exfalso only [*]))
  all_goals first
    | (refine Eq.trans ?_ (decide_eq_false (fun g => by have := g.2 j (by omega); simp_all)).symm; have h0 : (j : Int) ≥ 0 := (by omega); simp [h0]; done)
    | (refine Eq.trans ?_ (decide_eq_true ⟨hd2, fun i hi => haj i (by omega)⟩).symm; simp; done)
    | skip
theorem pvalid_f (k : Nat) (o : Nat → OpS) (hk : k ≤ 9223372036854775807) (ho : ∀ i, i < k → (o i).f.Ok) (hd : decide ((k : Int) ≤ 100) = false) : CallsP Tryz.prog 107 [.one (.lst 16 k (oprF o))] (.t (.one (.g (.bool (opsB k o))))) := by
  refine CallsP_of Tryz.func107 rfl (by rw [Tryz.ntmps107]; simp) ?_
  simp only [Tryz.ntmps107, zM, PT.tv, argEnv, Nat.zero_add, Nat.reduceAdd]
  repeat' (first
 | (refine callGK_u0 ?_)
 | ((with_reducible show AW _ _ _ _); first
 | (with_reducible first | refine aS (fun K hK => ?_) | refine aT ?_)
 | (first
 | (with_reducible first | refine aP 0 [0] ?_ | refine aP 1 [0] ?_)))
 | (with_reducible refine retK_n ?_)
 | ((with_reducible show callGN _ _ _ _ _ _ _ _ _ _); first
 | ((refine callGN_sq (k := 119) ?_ ?_) <;> (intro hc; (try simp only [zB, zC, reduceCtorEq] at hc); (try (exfalso; contradiction)))))
 | ((fail_if_success (with_reducible show AW _ _ _ _)); simp (maxSteps := 2000000) only [go_sem, reduceIte, reduceCtorEq, xA, xL, xD, xE, xM, xS, xB, Tryz.f107, hd])
 | ((with_reducible refine hK _ ?_); clear hK K))
  all_goals first | exact (decide_eq_false fun g => by have := of_decide_eq_false hd; omega).symm | skip
theorem pvalid_p (k : Nat) (o : Nat → OpS) (hk : k ≤ 9223372036854775807) (ho : ∀ i, i < k → (o i).f.Ok) : CallsP Tryz.prog 107 [.one (.lst 16 k (oprF o))] (.t (.one (.g (.bool (opsB k o))))) := by
  cases hd : decide ((k : Int) ≤ 100) with
  | true => exact pvalid_t k o hk ho hd
  | false => exact pvalid_f k o hk ho hd
end Go.Proofs.YtdhgiklbkmkblaaGreat
namespace Go.Proofs
open Go.Shelf
def Tryz.lays189_ren : Go.Shelf.Ren := ⟨fun | 189 => 143 | 125 => 163 | 257 => 162 | 128 => 190 | 129 => 191 | 294 => 182 | 295 => 183 | 296 => 184 | 297 => 185 | 298 => 186 | 299 => 187 | 216 => 122 | 300 => 188 | 301 => 189 | 328 => 206 | 329 => 207 | 330 => 208 | 331 => 209 | 332 => 210 | 215 => 136 | 343 => 218 | n => n, fun | 28 => 24 | 3 => 3 | 46 => 155 | 0 => 0 | 51 => 196 | 53 => 198 | 4 => 4 | 183 => 190 | 182 => 189 | 131 => 123 | 5 => 5 | 9 => 9 | 218 => 212 | 222 => 216 | 228 => 220 | 229 => 221 | n => n, fun | n => n⟩
theorem Tryz.lays189 : Go.Proofs.Lays.n189 Tryz.prog Tryz.lays189_ren := {
  mixed := by kernel_rfl
  f125 := Tryz.func163.trans (congrArg some (by kernel_rfl))
  f128 := Tryz.func190.trans (congrArg some (by kernel_rfl))
  f129 := Tryz.func191.trans (congrArg some (by kernel_rfl))
  f189 := Tryz.func143.trans (congrArg some (by kernel_rfl))
  f215 := Tryz.func136.trans (congrArg some (by kernel_rfl))
  f216 := Tryz.func122.trans (congrArg some (by kernel_rfl))
  f257 := Tryz.func162.trans (congrArg some (by kernel_rfl))
  f294 := Tryz.func182.trans (congrArg some (by kernel_rfl))
  f295 := Tryz.func183.trans (congrArg some (by kernel_rfl))
  f296 := Tryz.func184.trans (congrArg some (by kernel_rfl))
  f297 := Tryz.func185.trans (congrArg some (by kernel_rfl))
  f298 := Tryz.func186.trans (congrArg some (by kernel_rfl))
  f299 := Tryz.func187.trans (congrArg some (by kernel_rfl))
  f300 := Tryz.func188.trans (congrArg some (by kernel_rfl))
  f301 := Tryz.func189.trans (congrArg some (by kernel_rfl))
  f328 := Tryz.func206.trans (congrArg some (by kernel_rfl))
  f329 := Tryz.func207.trans (congrArg some (by kernel_rfl))
  f330 := Tryz.func208.trans (congrArg some (by kernel_rfl))
  f331 := Tryz.func209.trans (congrArg some (by kernel_rfl))
  f332 := Tryz.func210.trans (congrArg some (by kernel_rfl))
  f343 := Tryz.func218.trans (congrArg some (by kernel_rfl))
  t0 := Tryz.underlying0
  a0 := Tryz.isAgg0
  z0 := Tryz.sizeOf0
  v0 := Tryz.zeroValue0
  t3 := Tryz.underlying3
  a3 := Tryz.isAgg3
  z3 := Tryz.sizeOf3
  v3 := Tryz.zeroValue3
  t4 := Tryz.underlying4
  a4 := Tryz.isAgg4
  z4 := Tryz.sizeOf4
  v4 := Tryz.zeroValue4
  t5 := Tryz.underlying5
  a5 := Tryz.isAgg5
  z5 := Tryz.sizeOf5
  v5 := Tryz.zeroValue5
  t9 := Tryz.underlying9
  a9 := Tryz.isAgg9
  z9 := Tryz.sizeOf9
  v9 := Tryz.zeroValue9
  t28 := Tryz.underlying24
  a28 := Tryz.isAgg24
  z28 := Tryz.sizeOf24
  v28 := Tryz.zeroValue24
  t46 := Tryz.underlying155
  a46 := Tryz.isAgg155
  z46 := Tryz.sizeOf155
  v46 := Tryz.zeroValue155
  t51 := Tryz.underlying196
  a51 := Tryz.isAgg196
  z51 := Tryz.sizeOf196
  v51 := Tryz.zeroValue196
  t53 := Tryz.underlying198
  a53 := Tryz.isAgg198
  z53 := Tryz.sizeOf198
  v53 := Tryz.zeroValue198
  t131 := Tryz.underlying123
  a131 := Tryz.isAgg123
  z131 := Tryz.sizeOf123
  v131 := Tryz.zeroValue123
  t182 := Tryz.underlying189
  a182 := Tryz.isAgg189
  z182 := Tryz.sizeOf189
  v182 := Tryz.zeroValue189
  t183 := Tryz.underlying190
  a183 := Tryz.isAgg190
  z183 := Tryz.sizeOf190
  v183 := Tryz.zeroValue190
  t218 := Tryz.underlying212
  a218 := Tryz.isAgg212
  z218 := Tryz.sizeOf212
  v218 := Tryz.zeroValue212
  t222 := Tryz.underlying216
  a222 := Tryz.isAgg216
  z222 := Tryz.sizeOf216
  v222 := Tryz.zeroValue216
  t228 := Tryz.underlying220
  a228 := Tryz.isAgg220
  z228 := Tryz.sizeOf220
  v228 := Tryz.zeroValue220
  t229 := Tryz.underlying221
  a229 := Tryz.isAgg221
  z229 := Tryz.sizeOf221
  v229 := Tryz.zeroValue221 }
open Go.Sort Go.RowKit in
theorem Tryz.slices_Sort_int (blk off cap : Nat) (zs : List Int) (w : World) (hH : Holds (Value.int .i64) w blk off zs.toArray) (hblk : blk < w.heap.size) (hsz : zs.length < 4611686018427387904) :
    Calls Tryz.prog 143 #[.slice (some ⟨blk, off, none⟩) zs.length cap] w fun e w' =>
      e = .returned (.tuple #[]) ∧ ∃ n os, w' = grow (putRow (Value.int .i64) (Sort.ahead w n) blk off (zs.mergeSort fun x y => decide (x ≤ y)).toArray) os := Any.slices_Sort_int Tryz.lays189 blk off cap zs w hH hblk hsz
def Tryz.lays107_ren : Go.Shelf.Ren := ⟨fun | 107 => 53 | 108 => 94 | n => n, fun | 28 => 24 | 3 => 3 | 4 => 4 | 0 => 0 | n => n, fun | n => n⟩
theorem Tryz.lays107 : Go.Proofs.Lays.n107 Tryz.prog Tryz.lays107_ren := {
  mixed := by kernel_rfl
  f107 := Tryz.func53.trans (congrArg some (by kernel_rfl))
  f108 := Tryz.func94.trans (congrArg some (by kernel_rfl))
  t0 := Tryz.underlying0
  a0 := Tryz.isAgg0
  z0 := Tryz.sizeOf0
  v0 := Tryz.zeroValue0
  t3 := Tryz.underlying3
  a3 := Tryz.isAgg3
  z3 := Tryz.sizeOf3
  v3 := Tryz.zeroValue3
  t4 := Tryz.underlying4
  a4 := Tryz.isAgg4
  z4 := Tryz.sizeOf4
  v4 := Tryz.zeroValue4
  t28 := Tryz.underlying24
  a28 := Tryz.isAgg24
  z28 := Tryz.sizeOf24
  v28 := Tryz.zeroValue24 }
open Go.Lib in
theorem Tryz.slices_Contains_int (b off n c : Nat) (zs : List Int) (x : Int) (w : World) (hz : n ≤ zs.length) (hbig : n ≤ 9223372036854775807) (hc : ∀ j, j < zs.length → w.cell? ⟨b, off + j, none⟩ = some (.int .i64 (zs.getD j 0))) :
    Calls Tryz.prog 53 #[.slice (some ⟨b, off, none⟩) n c, .int .i64 x] w fun e w' => e = .returned (.bool ((zs.take n).contains x)) ∧ w' = w := Any.slices_Contains_int Tryz.lays107 b off n c zs x w hz hbig hc
open Go.Lib in
theorem Tryz.slices_Contains_int_empty (a : Option Addr) (c : Nat) (x : Int) (w : World) :
    Calls Tryz.prog 53 #[.slice a 0 c, .int .i64 x] w fun e w' => e = .returned (.bool false) ∧ w' = w := Any.slices_Contains_int_empty Tryz.lays107 a c x w
def Tryz.laysNm225_ren : Go.Shelf.Ren := ⟨fun | 25 => 83 | 31 => 122 | 32 => 123 | 37 => 136 | n => n, fun | 22 => 24 | 3 => 3 | 4 => 4 | 40 => 155 | 0 => 0 | n => n, fun | n => n⟩
theorem Tryz.laysNm225 : Go.Proofs.Lays2.n25 Tryz.prog Tryz.laysNm225_ren := {
  mixed := by kernel_rfl
  f25 := Tryz.func83.trans (congrArg some (by kernel_rfl))
  f31 := Tryz.func122.trans (congrArg some (by kernel_rfl))
  f32 := Tryz.func123.trans (congrArg some (by kernel_rfl))
  f37 := Tryz.func136.trans (congrArg some (by kernel_rfl))
  t0 := Tryz.underlying0
  a0 := Tryz.isAgg0
  z0 := Tryz.sizeOf0
  v0 := Tryz.zeroValue0
  t3 := Tryz.underlying3
  a3 := Tryz.isAgg3
  z3 := Tryz.sizeOf3
  v3 := Tryz.zeroValue3
  t4 := Tryz.underlying4
  a4 := Tryz.isAgg4
  z4 := Tryz.sizeOf4
  v4 := Tryz.zeroValue4
  t22 := Tryz.underlying24
  a22 := Tryz.isAgg24
  z22 := Tryz.sizeOf24
  v22 := Tryz.zeroValue24
  t40 := Tryz.underlying155
  a40 := Tryz.isAgg155
  z40 := Tryz.sizeOf155
  v40 := Tryz.zeroValue155 }
open Go.RowKit Go.Lib in
theorem Tryz.slices_BinarySearch_int (b off n c : Nat) (zs : List Int) (x : Int) (w : World) (hz : n ≤ zs.length) (hbig : n < 4611686018427387904) (hc : ∀ j, j < zs.length → w.cell? ⟨b, off + j, none⟩ = some (.int .i64 (zs.getD j 0))) (hs : (zs.take n).Pairwise (· ≤ ·)) :
    Calls Tryz.prog 83 #[.slice (some ⟨b, off, none⟩) n c, .int .i64 x] w fun e w' => e = .returned (.tuple #[.int .i64 ((zs.take n).countP (· < x) : Nat), .bool ((zs.take n).contains x)]) ∧ ∃ q, w' = w.drewN q := Any.slices_BinarySearch_int Tryz.laysNm225 b off n c zs x w hz hbig hc hs
open Go.RowKit Go.Sort in
theorem Tryz.slices_Sort_int_none (p : Option Addr) (cap : Nat) (w : World) :
    Calls Tryz.prog 143 #[.slice p 0 cap] w fun e w' => e = .returned (.tuple #[]) ∧ w' = w := Any.slices_Sort_int_none Tryz.lays189 p cap w
open Go.RowKit Go.Lib in
theorem Tryz.slices_BinarySearch_int_empty (a : Option Addr) (c : Nat) (x : Int) (w : World) :
    Calls Tryz.prog 83 #[.slice a 0 c, .int .i64 x] w fun e w' => e = .returned (.tuple #[.int .i64 0, .bool false]) ∧ w' = w := Any.slices_BinarySearch_int_empty Tryz.laysNm225 a c x w
end Go.Proofs
