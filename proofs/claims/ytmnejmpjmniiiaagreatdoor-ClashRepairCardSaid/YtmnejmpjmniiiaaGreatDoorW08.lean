/- Part 8 of 16: contracts of functions and plain laws for the root text. No condition. -/
import Derived.Test.YtmnejmpjmniiiaaGreatDoorW01
import Derived.Test.YtmnejmpjmniiiaaGreatDoorW02
import Derived.Test.YtmnejmpjmniiiaaGreatDoorW03
import Derived.Test.YtmnejmpjmniiiaaGreatDoorW04
import Derived.Test.YtmnejmpjmniiiaaGreatDoorW05
import Derived.Test.YtmnejmpjmniiiaaGreatDoorW06
import Derived.Test.YtmnejmpjmniiiaaGreatDoorW07
import Derived.Shelf.Small.Bits
import Derived.Shelf.Small.Wraps
import Derived.Shelf.Strconv.Itoa0
import Derived.Shelf.Sort.Plain
import Derived.Ground.Names2Prog
import Derived.Shelf.Slices.SearchI
import Derived.Shelf.Slices.In.SortNone
import Derived.Test.YtmnejmpjmniiiaaGreatDoorProg
import Derived.Lib.RowBridge
set_option linter.unusedVariables false
set_option linter.unusedSimpArgs false
set_option maxRecDepth 100000
set_option maxHeartbeats 4000000
namespace Go.Proofs.YtmnejmpjmniiiaaGreatDoor
open Go.RowKit Go.Sea
open Nat renaming reduceAdd → xA, reduceLT → xL, reduceLeDiff → xD, reduceEqDiff → xE, reduceMul → xM, reduceSub → xS, reduceBEq → xB
theorem fnok_200 : fnOk Tryz.prog 200 = true := by kernel_rfl
theorem fnok_201 : fnOk Tryz.prog 201 = true := by kernel_rfl
theorem fnok_78 : fnOk Tryz.prog 78 = true := by kernel_rfl
theorem fnok_79 : fnOk Tryz.prog 79 = true := by kernel_rfl
theorem fnok_141 : fnOk Tryz.prog 141 = true := by kernel_rfl
theorem fnok_142 : fnOk Tryz.prog 142 = true := by kernel_rfl
theorem fnok_143 : fnOk Tryz.prog 143 = true := by kernel_rfl
theorem fnok_127 : fnOk Tryz.prog 127 = true := by kernel_rfl
theorem fnok_129 : fnOk Tryz.prog 129 = true := by kernel_rfl
theorem fnok_130 : fnOk Tryz.prog 130 = true := by kernel_rfl
theorem fnok_131 : fnOk Tryz.prog 131 = true := by kernel_rfl
theorem fnok_132 : fnOk Tryz.prog 132 = true := by kernel_rfl
theorem of_66_0 : offOf Tryz.prog 66 0 = some 0 := by kernel_rfl
theorem of_66_1 : offOf Tryz.prog 66 1 = some 1 := by kernel_rfl
theorem of_66_2 : offOf Tryz.prog 66 2 = some 2 := by kernel_rfl
theorem of_66_3 : offOf Tryz.prog 66 3 = some 4 := by kernel_rfl
theorem of_66_4 : offOf Tryz.prog 66 4 = some 5 := by kernel_rfl
theorem of_66_5 : offOf Tryz.prog 66 5 = some 6 := by kernel_rfl
theorem of_66_6 : offOf Tryz.prog 66 6 = some 7 := by kernel_rfl
theorem of_66_7 : offOf Tryz.prog 66 7 = some 8 := by kernel_rfl
theorem ty_63 : tyD Tryz.prog 63 = some (false, 1) := by kernel_rfl
theorem ty_64 : tyD Tryz.prog 64 = some (false, 1) := by kernel_rfl
attribute [go_sem] fnok_200 fnok_201 fnok_78 fnok_79 fnok_141 fnok_142 fnok_143 fnok_127 fnok_129 fnok_130 fnok_131 fnok_132 of_66_0 of_66_1 of_66_2 of_66_3 of_66_4 of_66_5 of_66_6 of_66_7 ty_63 ty_64
structure Feat where
  id : Int
  kd : Int
  x : Int
  y : Int
  r : Int
  n : Nat
  P : Nat → Nat → Int
  d : Int
  s : Int
  m : Nat
  S : Nat → Nat → Int
structure Feat.Ok (f : Feat) : Prop where
  n : f.n ≤ 9223372036854775807
  m : f.m ≤ 9223372036854775807
def roomB (x y r : Int) : Bool := ptB (x - r) (y - r) && ptB (x + r) (y + r)
def featC (id kd x y r : Int) (n : Nat) (d s : Int) (m : Nat) (pt rm po se : Bool) : Prop :=
  (1 ≤ id ∧ id ≤ 100000) ∧ (0 ≤ s ∧ s ≤ 999) ∧ (0 ≤ d ∧ d ≤ 100000) ∧ (0 ≤ r ∧ r ≤ 100000) ∧
  ((kd = 1 ∨ kd = 2 ∨ kd = 5) ∧ pt = true ∧ rm = true ∧ n = 0 ∧ m = 0 ∨ (kd = 3 ∨ kd = 6) ∧ (kd = 6 → d = 0) ∧ po = true ∧ x = 0 ∧ y = 0 ∧ r = 0 ∧ m = 0 ∨ kd = 4 ∧ pt = true ∧ se = true ∧ r = 0 ∧ d = 0 ∧ n = 0)
instance (id kd x y r : Int) (n : Nat) (d s : Int) (m : Nat) (pt rm po se : Bool) : Decidable (featC id kd x y r n d s m pt rm po se) := by unfold featC; infer_instance
def featB (f : Feat) : Bool := decide (featC f.id f.kd f.x f.y f.r f.n f.d f.s f.m (ptB f.x f.y) (roomB f.x f.y f.r) (polB f.n f.P) (secsB f.m f.S))
def feqB (f g : Feat) : Bool := decide (f.id = g.id ∧ f.kd = g.kd ∧ f.x = g.x ∧ f.y = g.y ∧ f.r = g.r ∧ f.d = g.d ∧ f.s = g.s) && (eqLB 2 f.n g.n f.P g.P && eqLB 6 f.m g.m f.S g.S)
theorem ptB_iff (x y : Int) : ptB x y = true ↔ (-1000000 ≤ x ∧ x ≤ 1000000 ∧ -1000000 ≤ y ∧ y ≤ 1000000) := by
  unfold ptB; simp only [Bool.and_eq_true, decide_eq_true_eq, and_assoc]
theorem feat_iff (f : Feat) : featB f = true ↔ featC f.id f.kd f.x f.y f.r f.n f.d f.s f.m (ptB f.x f.y) (roomB f.x f.y f.r) (polB f.n f.P) (secsB f.m f.S) := decide_eq_true_iff
def rngF (f : Feat) : Prop := (1 ≤ f.id ∧ f.id ≤ 100000) ∧ (0 ≤ f.s ∧ f.s ≤ 999) ∧ (0 ≤ f.d ∧ f.d ≤ 100000) ∧ (0 ≤ f.r ∧ f.r ≤ 100000)
theorem feat_0 {f : Feat} (h : ¬ rngF f) : false = featB f := (decide_eq_false fun g => h ⟨g.1, g.2.1, g.2.2.1, g.2.2.2.1⟩).symm
theorem feat_k {f : Feat} (h : f.kd ≠ 1 ∧ f.kd ≠ 2 ∧ f.kd ≠ 5 ∧ f.kd ≠ 6 ∧ f.kd ≠ 3 ∧ f.kd ≠ 4) : false = featB f := (decide_eq_false fun g => by
  rcases g.2.2.2.2 with k | k | k <;> omega).symm
theorem feat_6 {f : Feat} (h : f.kd = 6) (hd : f.d > 0) : false = featB f := (decide_eq_false fun g => by
  rcases g.2.2.2.2 with k | k | k
  · omega
  · have := k.2.1 h; omega
  · omega).symm
theorem feat_d {f : Feat} (hr : rngF f) (hk : f.kd = 1 ∨ f.kd = 2 ∨ f.kd = 5) : (ptB f.x f.y && roomB f.x f.y f.r && (f.n : Int) == 0 && (f.m : Int) == 0) = featB f := by
  refine Bool.eq_iff_iff.2 ?_
  rw [feat_iff]; unfold featC; simp only [Bool.and_eq_true, beq_iff_eq]
  constructor
  · rintro ⟨⟨⟨h1, h2⟩, h3⟩, h4⟩; exact ⟨hr.1, hr.2.1, hr.2.2.1, hr.2.2.2, Or.inl ⟨hk, h1, h2, by omega, by omega⟩⟩
  · rintro ⟨_, _, _, _, h | h | h⟩
    · exact ⟨⟨⟨h.2.1, h.2.2.1⟩, by omega⟩, by omega⟩
    · omega
    · omega
theorem feat_p {f : Feat} (hr : rngF f) (hk : f.kd = 3 ∨ f.kd = 6) (hd : f.kd = 6 → f.d = 0) : (polB f.n f.P && (f.x == 0 && f.y == 0) && f.r == 0 && (f.m : Int) == 0) = featB f := by
  refine Bool.eq_iff_iff.2 ?_
  rw [feat_iff]; unfold featC; simp only [Bool.and_eq_true, beq_iff_eq]
  constructor
  · rintro ⟨⟨⟨h1, h2⟩, h3⟩, h4⟩; exact ⟨hr.1, hr.2.1, hr.2.2.1, hr.2.2.2, Or.inr (Or.inl ⟨hk, hd, h1, h2.1, h2.2, h3, by omega⟩)⟩
  · rintro ⟨_, _, _, _, h | h | h⟩
    · omega
    · exact ⟨⟨⟨h.2.2.1, h.2.2.2.1, h.2.2.2.2.1⟩, h.2.2.2.2.2.1⟩, by omega⟩
    · omega
theorem feat_l {f : Feat} (hr : rngF f) (hk : f.kd = 4) : (ptB f.x f.y && secsB f.m f.S && f.r == 0 && f.d == 0 && (f.n : Int) == 0) = featB f := by
  refine Bool.eq_iff_iff.2 ?_
  rw [feat_iff]; unfold featC; simp only [Bool.and_eq_true, beq_iff_eq]
  constructor
  · rintro ⟨⟨⟨⟨h1, h2⟩, h3⟩, h4⟩, h5⟩; exact ⟨hr.1, hr.2.1, hr.2.2.1, hr.2.2.2, Or.inr (Or.inr ⟨hk, h1, h2, h3, h4, by omega⟩)⟩
  · rintro ⟨_, _, _, _, h | h | h⟩
    · omega
    · omega
    · exact ⟨⟨⟨⟨h.2.1, h.2.2.1⟩, h.2.2.2.1⟩, h.2.2.2.2.1⟩, by omega⟩
theorem froom_p (x y r : Int) (hp : ptB x y = true) (hr : 0 ≤ r ∧ r ≤ 100000) : CallsP Tryz.prog 141 [.agg [.g (.int .i64 (x)), .g (.int .i64 (y))], .one (.g (.int .i64 r))] (.t (.one (.g (.bool (roomB x y r))))) := by
  have hq := (ptB_iff _ _).1 hp
  refine CallsP_of Tryz.func141 rfl (by rw [Tryz.ntmps141]; simp) ?_
  simp only [Tryz.ntmps141, zM, PT.tv, argEnv, Nat.zero_add, Nat.reduceAdd]
  repeat' (first
 | ((with_reducible show AW _ _ _ _); first
 | (with_reducible first | refine aS (fun K hK => ?_) | refine aT ?_)
 | (first
 | (with_reducible first | refine aP 0 [0,1] ?_ | refine aP 1 [1,2] ?_)))
 | (((with_reducible refine Need.mk ?_)); focus (first | exact True.intro | (intro _; (with_reducible assumption))))
 | (with_reducible refine retK_n ?_)
 | ((with_reducible show callN _ _ _ _ _ _ _ _ _ _); first
 | (refine callN_q (k := 140) fnok_140 (ptV_p _ _) ?_ ?_))
 | ((with_reducible show callGN _ _ _ _ _ _ _ _ _ _); first
 | (refine callGN_q (k := 140) fnok_140 (fun hg => ptV_p _ _) ?_ ?_))
 | ((fail_if_success (with_reducible show AW _ _ _ _)); simp (maxSteps := 2000000) only [go_sem, reduceIte, reduceCtorEq, xA, xL, xD, xE, xM, xS, xB, Tryz.f141])
 | ((fail_if_success (with_reducible show AW _ _ _ _)); simp (disch := omega) only [seaWrap, seaDiv, seaMod])
 | ((with_reducible refine hK _ ?_); clear hK K))
  all_goals ((unfold roomB; simp_all; done))
theorem nroom_p (x y r : Int) (hp : ptB x y = true) (hr : 0 ≤ r ∧ r ≤ 100000) : CallsP Tryz.prog 151 [.agg [.g (.int .i64 (x)), .g (.int .i64 (y))], .one (.g (.int .i64 r))] (.t (.one (.g (.bool (roomB x y r))))) := by
  have hq := (ptB_iff _ _).1 hp
  refine CallsP_of Tryz.func151 rfl (by rw [Tryz.ntmps151]; simp) ?_
  simp only [Tryz.ntmps151, zM, PT.tv, argEnv, Nat.zero_add, Nat.reduceAdd]
  repeat' (first
 | ((with_reducible show AW _ _ _ _); first
 | (with_reducible first | refine aS (fun K hK => ?_) | refine aT ?_)
 | (first
 | (with_reducible first | refine aP 0 [0,1] ?_ | refine aP 1 [1,2] ?_)))
 | (((with_reducible refine Need.mk ?_)); focus (first | exact True.intro | (intro _; (with_reducible assumption))))
 | (with_reducible refine retK_n ?_)
 | ((with_reducible show callN _ _ _ _ _ _ _ _ _ _); first
 | (refine callN_q (k := 140) fnok_140 (ptV_p _ _) ?_ ?_))
 | ((with_reducible show callGN _ _ _ _ _ _ _ _ _ _); first
 | (refine callGN_q (k := 140) fnok_140 (fun hg => ptV_p _ _) ?_ ?_))
 | ((fail_if_success (with_reducible show AW _ _ _ _)); simp (maxSteps := 2000000) only [go_sem, reduceIte, reduceCtorEq, xA, xL, xD, xE, xM, xS, xB, Tryz.f151])
 | ((fail_if_success (with_reducible show AW _ _ _ _)); simp (disch := omega) only [seaWrap, seaDiv, seaMod])
 | ((with_reducible refine hK _ ?_); clear hK K))
  all_goals ((unfold roomB; simp_all; done))
theorem Feat_p (f : Feat) (ho : f.Ok) : CallsP Tryz.prog 115 [.agg [.g (.int .i64 (f.id)), .g (.int .i64 (f.kd)), .g (.int .i64 (f.x)), .g (.int .i64 (f.y)), .g (.int .i64 (f.r)), .lst 2 f.n (ptI f.P), .g (.int .i64 (f.d)), .g (.int .i64 (f.s)), .lst 6 f.m (ptI f.S)]] (.t (.one (.g (.bool (featB f))))) := by
  refine CallsP_of Tryz.func115 rfl (by rw [Tryz.ntmps115]; simp) ?_
  simp only [Tryz.ntmps115, zM, PT.tv, argEnv, Nat.zero_add, Nat.reduceAdd]
  repeat' (first
 | ((with_reducible show AW _ _ _ _); first
 | (with_reducible first | refine aS (fun K hK => ?_) | refine aI ?_ | refine aX ?_ | refine aT ?_ | refine aC ?_ | refine aB ?_)
 | (first
 | (with_reducible first | refine aP 0 [0] ?_ | refine aP 1 [1] ?_ | refine aP 2 [] ?_ | refine aP 3 [1] ?_ | refine aP 4 [1,42] ?_ | refine aP 5 [1,42] ?_ | refine aP 6 [1,42] ?_ | refine aP 7 [1,42] ?_ | refine aP 8 [1,42] ?_ | refine aP 9 [1,42] ?_ | refine aP 10 [1] ?_ | refine aP 11 [1] ?_ | refine aP 12 [] ?_ | refine aP 13 [1] ?_ | refine aP 14 [1] ?_ | refine aP 15 [] ?_)))
 | ((first | (with_reducible refine And.intro ?_ ?_) | (with_reducible refine Need.mk ?_)); focus (first | exact True.intro | (intro _; (with_reducible assumption)) | (simp; done)))
 | (with_reducible refine retK_n ?_)
 | ((with_reducible show condN _ _ _ _ _ _); first
 | ((with_reducible refine condN_t ?_ ?_) <;> (intro hc; (try simp only [zB, zC, reduceCtorEq] at hc); (try (exfalso; contradiction)))))
 | ((with_reducible show callN _ _ _ _ _ _ _ _ _ _); first
 | (refine callN_q (k := 140) fnok_140 (ptV_p _ _) ?_ ?_)
 | (refine callN_q (k := 142) fnok_142 (Pol_p _ _ ho.n) ?_ ?_))
 | ((with_reducible show callGN _ _ _ _ _ _ _ _ _ _); first
 | (refine callGN_q (k := 141) fnok_141 (fun hg => froom_p _ _ _ (by assumption) (by omega)) ?_ ?_)
 | (refine callGN_q (k := 143) fnok_143 (fun hg => Secs_p _ _ (by have := ho.m; omega)) ?_ ?_))
 | ((fail_if_success (with_reducible show AW _ _ _ _)); simp (maxSteps := 2000000) only [go_sem, reduceIte, reduceCtorEq, xA, xL, xD, xE, xM, xS, xB, Tryz.f115, Go.Sea.cmpS])
 | ((with_reducible refine hK _ ?_); clear hK K)
 | (with_reducible apply_assumption -exfalso only [*]))
  all_goals (first | exact feat_0 (by unfold rngF; omega) | exact feat_6 (by omega) (by omega) | exact feat_k (by omega) | exact feat_d (by unfold rngF; omega) (by omega) | exact feat_p (by unfold rngF; omega) (by omega) (by omega) | exact feat_l (by unfold rngF; omega) (by omega))
theorem fsame_p (f g : Feat) (ho : f.Ok) (ho2 : g.Ok) : CallsP Tryz.prog 180 [.agg [.g (.int .i64 (f.id)), .g (.int .i64 (f.kd)), .g (.int .i64 (f.x)), .g (.int .i64 (f.y)), .g (.int .i64 (f.r)), .lst 2 f.n (ptI f.P), .g (.int .i64 (f.d)), .g (.int .i64 (f.s)), .lst 6 f.m (ptI f.S)], .agg [.g (.int .i64 (g.id)), .g (.int .i64 (g.kd)), .g (.int .i64 (g.x)), .g (.int .i64 (g.y)), .g (.int .i64 (g.r)), .lst 2 g.n (ptI g.P), .g (.int .i64 (g.d)), .g (.int .i64 (g.s)), .lst 6 g.m (ptI g.S)]] (.t (.one (.g (.bool (feqB f g))))) := by
  refine CallsP_of Tryz.func180 rfl (by rw [Tryz.ntmps180]; simp) ?_
  simp only [Tryz.ntmps180, zM, PT.tv, argEnv, Nat.zero_add, Nat.reduceAdd]
  repeat' (first
 | ((with_reducible show AW _ _ _ _); first
 | (with_reducible first | refine aS (fun K hK => ?_) | refine aT ?_)
 | (first
 | (with_reducible first | refine aP 0 [0,1] ?_ | refine aP 1 [2,3] ?_)))
 | (((with_reducible refine Need.mk ?_)); focus ((intro _; (with_reducible assumption))))
 | (with_reducible refine retK_n ?_)
 | ((with_reducible show callGN _ _ _ _ _ _ _ _ _ _); first
 | (refine callGN_q (k := 200) fnok_200 (fun hg => eqPt_p _ _ _ _ ho.n ho2.n) ?_ ?_)
 | (refine callGN_q (k := 201) fnok_201 (fun hg => eqSec_p _ _ _ _ ho.m ho2.m) ?_ ?_))
 | ((fail_if_success (with_reducible show AW _ _ _ _)); simp (maxSteps := 2000000) only [go_sem, reduceIte, reduceCtorEq, xA, xL, xD, xE, xM, xS, xB, Tryz.f180, Go.Sea.cmpS])
 | ((with_reducible refine hK _ ?_); clear hK K))
  all_goals ((unfold feqB; refine Bool.eq_iff_iff.2 ?_; simp only [decide_eq_true_eq, Bool.and_eq_true, beq_iff_eq]; constructor <;> (intro h; simp_all; done)))
theorem rfsame_p (f g : Feat) (ho : f.Ok) (ho2 : g.Ok) : CallsP Tryz.prog 45 [.agg [.g (.int .i64 (f.id)), .g (.int .i64 (f.kd)), .g (.int .i64 (f.x)), .g (.int .i64 (f.y)), .g (.int .i64 (f.r)), .lst 2 f.n (ptI f.P), .g (.int .i64 (f.d)), .g (.int .i64 (f.s)), .lst 6 f.m (ptI f.S)], .agg [.g (.int .i64 (g.id)), .g (.int .i64 (g.kd)), .g (.int .i64 (g.x)), .g (.int .i64 (g.y)), .g (.int .i64 (g.r)), .lst 2 g.n (ptI g.P), .g (.int .i64 (g.d)), .g (.int .i64 (g.s)), .lst 6 g.m (ptI g.S)]] (.t (.one (.g (.bool (feqB f g))))) := by
  refine CallsP_of Tryz.func45 rfl (by rw [Tryz.ntmps45]; simp) ?_
  simp only [Tryz.ntmps45, zM, PT.tv, argEnv, Nat.zero_add, Nat.reduceAdd]
  repeat' (first
 | ((with_reducible show AW _ _ _ _); first
 | (with_reducible first | refine aS (fun K hK => ?_) | refine aI ?_ | refine aT ?_ | refine aC ?_)
 | (first
 | (with_reducible first | refine aP 0 [0,1] ?_ | refine aP 1 [2,3] ?_ | refine aP 2 [] ?_ | refine aP 3 [2,3] ?_)))
 | ((first | (with_reducible refine And.intro ?_ ?_) | (with_reducible refine Need.mk ?_)); focus (first | exact True.intro | (intro _; (with_reducible assumption)) | (simp; done)))
 | (with_reducible refine retK_n ?_)
 | ((with_reducible show condN _ _ _ _ _ _); first
 | ((with_reducible refine condN_t ?_ ?_) <;> (intro hc; (try simp only [zB, zC, reduceCtorEq] at hc); (try (exfalso; contradiction)))))
 | ((with_reducible show callN _ _ _ _ _ _ _ _ _ _); first
 | (refine callN_q (k := 78) fnok_78 (reqPt_p _ _ _ _ ho.n ho2.n) ?_ ?_))
 | ((with_reducible show callGN _ _ _ _ _ _ _ _ _ _); first
 | (refine callGN_q (k := 79) fnok_79 (fun hg => reqSec_p _ _ _ _ ho.m ho2.m) ?_ ?_))
 | ((fail_if_success (with_reducible show AW _ _ _ _)); simp (maxSteps := 2000000) only [go_sem, reduceIte, reduceCtorEq, xA, xL, xD, xE, xM, xS, xB, Tryz.f45, Go.Sea.cmpS])
 | ((with_reducible refine hK _ ?_); clear hK K))
  all_goals (first | (unfold feqB; refine Bool.eq_iff_iff.2 ?_; simp only [decide_eq_true_eq, Bool.and_eq_true, beq_iff_eq, reduceCtorEq, false_iff]; omega) | (unfold feqB; rw [decide_eq_true (by omega)]; rfl))
end Go.Proofs.YtmnejmpjmniiiaaGreatDoor
set_option maxRecDepth 100000
set_option maxHeartbeats 4000000
namespace Go.Proofs.YtmnejmpjmniiiaaGreatDoor
open Go.RowKit Go.Sea
open Nat renaming reduceAdd → xA, reduceLT → xL, reduceLeDiff → xD, reduceEqDiff → xE, reduceMul → xM, reduceSub → xS, reduceBEq → xB
theorem fnok_115 : fnOk Tryz.prog 115 = true := by kernel_rfl
theorem fnok_149 : fnOk Tryz.prog 149 = true := by kernel_rfl
theorem fnok_150 : fnOk Tryz.prog 150 = true := by kernel_rfl
theorem fnok_151 : fnOk Tryz.prog 151 = true := by kernel_rfl
theorem fnok_180 : fnOk Tryz.prog 180 = true := by kernel_rfl
theorem fo_66 : fieldsOk Tryz.prog 66 = true := by kernel_rfl
theorem fo_112 : fieldsOk Tryz.prog 112 = true := by kernel_rfl
theorem of_112_0 : offOf Tryz.prog 112 0 = some 0 := by kernel_rfl
theorem of_112_1 : offOf Tryz.prog 112 1 = some 1 := by kernel_rfl
theorem of_112_2 : offOf Tryz.prog 112 2 = some 2 := by kernel_rfl
theorem of_112_3 : offOf Tryz.prog 112 3 = some 11 := by kernel_rfl
theorem of_112_4 : offOf Tryz.prog 112 4 = some 13 := by kernel_rfl
theorem of_112_5 : offOf Tryz.prog 112 5 = some 14 := by kernel_rfl
theorem of_112_6 : offOf Tryz.prog 112 6 = some 15 := by kernel_rfl
theorem pl_112_0 : placeF Tryz.prog 112 0 = some (0, 1) := by kernel_rfl
theorem pl_112_1 : placeF Tryz.prog 112 1 = some (1, 1) := by kernel_rfl
theorem ty_66 : tyD Tryz.prog 66 = some (true, 9) := by kernel_rfl
theorem ty_112 : tyD Tryz.prog 112 = some (true, 16) := by kernel_rfl
theorem zc_66 : zeroC Tryz.prog 66 = some [.iv (.g (.int .i64 0)), .iv (.g (.int .i64 0)), .iv (.g (.int .i64 0)), .iv (.g (.int .i64 0)), .iv (.g (.int .i64 0)), .iv (.g (.slice none 0 0)), .iv (.g (.int .i64 0)), .iv (.g (.int .i64 0)), .iv (.g (.slice none 0 0))] := by kernel_rfl
theorem zc_112 : zeroC Tryz.prog 112 = some [.iv (.g (.int .i64 0)), .iv (.g (.int .i64 0)), .iv (.g (.int .i64 0)), .iv (.g (.int .i64 0)), .iv (.g (.int .i64 0)), .iv (.g (.int .i64 0)), .iv (.g (.int .i64 0)), .iv (.g (.slice none 0 0)), .iv (.g (.int .i64 0)), .iv (.g (.int .i64 0)), .iv (.g (.slice none 0 0)), .iv (.g (.int .i64 0)), .iv (.g (.int .i64 0)), .iv (.g (.int .i64 0)), .iv (.g (.int .i64 0)), .iv (.g (.int .i64 0))] := by kernel_rfl
attribute [go_sem] fnok_115 fnok_149 fnok_150 fnok_151 fnok_180 fo_66 fo_112 of_112_0 of_112_1 of_112_2 of_112_3 of_112_4 of_112_5 of_112_6 pl_112_0 pl_112_1 ty_66 ty_112 zc_66 zc_112
structure OpS where
  kd : Int
  id : Int
  f : Feat
  x : Int
  y : Int
  r : Int
  d : Int
  s : Int
def feat0 : Feat := ⟨0, 0, 0, 0, 0, 0, fun _ _ => 0, 0, 0, 0, fun _ _ => 0⟩
def zOp (k i : Int) : OpS := ⟨k, i, feat0, 0, 0, 0, 0, 0⟩
def bareO (o : OpS) : OpS := if o.kd = 1 then ⟨o.kd, o.id, feat0, o.x, o.y, o.r, o.d, o.s⟩ else if o.kd = 3 then ⟨o.kd, o.id, o.f, 0, 0, 0, o.d, o.s⟩ else if o.kd = 4 then ⟨o.kd, o.id, o.f, o.x, o.y, o.r, 0, o.s⟩ else if o.kd = 5 then ⟨o.kd, o.id, o.f, o.x, o.y, o.r, o.d, 0⟩ else o
theorem feat0_ok : feat0.Ok := ⟨by simp [feat0], by simp [feat0]⟩
theorem bareO_ok {o : OpS} (h : o.f.Ok) : (bareO o).f.Ok := by
  unfold bareO; repeat' split
  all_goals first | exact feat0_ok | exact h
def zF (f : Feat) : Prop := f.id = 0 ∧ f.kd = 0 ∧ f.x = 0 ∧ f.y = 0 ∧ f.r = 0 ∧ f.d = 0 ∧ f.s = 0 ∧ f.n = 0 ∧ f.m = 0
instance (f : Feat) : Decidable (zF f) := by unfold zF; infer_instance
def opC (o : OpS) (pt rm fe : Bool) : Prop :=
  (1 ≤ o.id ∧ o.id ≤ 100000) ∧ (o.kd = 1 ∧ o.f.id = o.id ∧ fe = true ∧ o.x = 0 ∧ o.y = 0 ∧ o.r = 0 ∧ o.d = 0 ∧ o.s = 0 ∨ zF o.f ∧
    (o.kd = 2 ∧ o.x = 0 ∧ o.y = 0 ∧ o.r = 0 ∧ o.d = 0 ∧ o.s = 0 ∨ o.kd = 3 ∧ (0 ≤ o.r ∧ o.r ≤ 100000) ∧ pt = true ∧ rm = true ∧ o.d = 0 ∧ o.s = 0 ∨
     o.kd = 4 ∧ (0 ≤ o.d ∧ o.d ≤ 100000) ∧ o.x = 0 ∧ o.y = 0 ∧ o.r = 0 ∧ o.s = 0 ∨ o.kd = 5 ∧ (0 ≤ o.s ∧ o.s ≤ 999) ∧ o.x = 0 ∧ o.y = 0 ∧ o.r = 0 ∧ o.d = 0))
instance (o : OpS) (pt rm fe : Bool) : Decidable (opC o pt rm fe) := by unfold opC; infer_instance
def opB (o : OpS) : Bool := decide (opC o (ptB o.x o.y) (roomB o.x o.y o.r) (featB o.f))
def sopB (a b : OpS) : Bool := decide (a.kd = b.kd ∧ a.id = b.id ∧ a.x = b.x ∧ a.y = b.y ∧ a.r = b.r ∧ a.d = b.d ∧ a.s = b.s) && feqB a.f b.f
theorem eqLB_z {w n : Nat} {P Q : Nat → Nat → Int} : eqLB w n 0 P Q = true ↔ n = 0 := by
  unfold eqLB; rw [decide_eq_true_eq]
  exact ⟨fun h => h.1, fun h => ⟨h, fun i hi => by omega⟩⟩
theorem feqB_z (f : Feat) : feqB f feat0 = true ↔ zF f := by
  unfold feqB zF; simp only [Bool.and_eq_true, decide_eq_true_eq]; simp only [feat0, eqLB_z, and_assoc]
theorem bare_z (o : OpS) : sopB (bareO o) (zOp o.kd o.id) = true ↔ ((o.kd = 1 ∨ zF o.f) ∧ (o.kd = 3 ∨ (o.x = 0 ∧ o.y = 0 ∧ o.r = 0)) ∧ (o.kd = 4 ∨ o.d = 0) ∧ (o.kd = 5 ∨ o.s = 0)) := by
  have h0 : zF feat0 := ⟨rfl, rfl, rfl, rfl, rfl, rfl, rfl, rfl, rfl⟩
  unfold sopB; simp only [Bool.and_eq_true, decide_eq_true_eq]; simp only [zOp, feqB_z]
  unfold bareO
  by_cases h1 : o.kd = 1
  · simp [h1, h0, and_assoc]
  · by_cases h3 : o.kd = 3
    · simp [h3]
      generalize zF o.f = z at *; constructor <;> (intro h; simp_all)
    · by_cases h4 : o.kd = 4
      · simp [h4]
        generalize zF o.f = z at *; constructor <;> (intro h; simp_all)
      · by_cases h5 : o.kd = 5
        · simp [h5]
          generalize zF o.f = z at *; constructor <;> (intro h; simp_all)
        · simp [h1, h3, h4, h5]
          generalize zF o.f = z at *; constructor <;> (intro h; simp_all)
theorem bare_1 {o : OpS} (h : o.kd = 1) : bareO o = ⟨o.kd, o.id, feat0, o.x, o.y, o.r, o.d, o.s⟩ := by unfold bareO; rw [if_pos h]
theorem bare_3 {o : OpS} (h : o.kd = 3) : bareO o = ⟨o.kd, o.id, o.f, 0, 0, 0, o.d, o.s⟩ := by unfold bareO; rw [if_neg (by omega), if_pos h]
theorem bare_4 {o : OpS} (h : o.kd = 4) : bareO o = ⟨o.kd, o.id, o.f, o.x, o.y, o.r, 0, o.s⟩ := by unfold bareO; rw [if_neg (by omega), if_neg (by omega), if_pos h]
theorem bare_5 {o : OpS} (h : o.kd = 5) : bareO o = ⟨o.kd, o.id, o.f, o.x, o.y, o.r, o.d, 0⟩ := by unfold bareO; rw [if_neg (by omega), if_neg (by omega), if_neg (by omega), if_pos h]
theorem bare_n {o : OpS} (h : o.kd ≠ 1 ∧ o.kd ≠ 3 ∧ o.kd ≠ 4 ∧ o.kd ≠ 5) : bareO o = o := by unfold bareO; rw [if_neg h.1, if_neg h.2.1, if_neg h.2.2.1, if_neg h.2.2.2]
theorem op_iff (o : OpS) : opB o = true ↔ opC o (ptB o.x o.y) (roomB o.x o.y o.r) (featB o.f) := decide_eq_true_iff
def idO (o : OpS) : Prop := (1 ≤ o.id ∧ o.id ≤ 100000) ∧ sopB (bareO o) (zOp o.kd o.id) = true
theorem op_f {o : OpS} (h : (o.id < 1 ∨ o.id > 100000) ∨ sopB (bareO o) (zOp o.kd o.id) = false) : false = opB o := by
  refine Bool.eq_iff_iff.2 ?_
  rw [op_iff]
  refine ⟨fun g => (by cases g), fun g => ?_⟩
  exfalso
  obtain ⟨g1, g2⟩ := g
  have : sopB (bareO o) (zOp o.kd o.id) = true := by
    rw [bare_z]
    rcases g2 with g2 | ⟨gz, g2 | g2 | g2 | g2⟩
    · exact ⟨Or.inl g2.1, by omega, by omega, by omega⟩
    all_goals exact ⟨Or.inr gz, by omega, by omega, by omega⟩
  rcases h with h | h
  · omega
  · rw [this] at h; cases h
theorem op_1 {o : OpS} (h : idO o) (hk : o.kd = 1) : (o.f.id == o.id && featB o.f) = opB o := by
  obtain ⟨h1, h2⟩ := h; rw [bare_z] at h2
  refine Bool.eq_iff_iff.2 ?_
  rw [op_iff]; unfold opC; simp only [Bool.and_eq_true, beq_iff_eq]
  constructor
  · rintro ⟨g1, g2⟩; exact ⟨h1, Or.inl ⟨hk, g1, g2, by omega, by omega, by omega, by omega, by omega⟩⟩
  · rintro ⟨_, g | ⟨_, g | g | g | g⟩⟩
    · exact ⟨g.2.1, g.2.2.1⟩
    all_goals omega
theorem zf_o {o : OpS} (h2 : (o.kd = 1 ∨ zF o.f) ∧ (o.kd = 3 ∨ (o.x = 0 ∧ o.y = 0 ∧ o.r = 0)) ∧ (o.kd = 4 ∨ o.d = 0) ∧ (o.kd = 5 ∨ o.s = 0)) (hk : o.kd ≠ 1) : zF o.f := h2.1.resolve_left hk
theorem op_2 {o : OpS} (h : idO o) (hk : o.kd = 2) : true = opB o := by
  obtain ⟨h1, h2⟩ := h; rw [bare_z] at h2
  refine ((op_iff o).2 ⟨h1, Or.inr ⟨zf_o h2 (by omega), Or.inl (by omega)⟩⟩).symm
theorem op_3 {o : OpS} (h : idO o) (hk : o.kd = 3) : (decide (o.r ≥ 0) && decide (o.r ≤ 100000) && ptB o.x o.y && roomB o.x o.y o.r) = opB o := by
  obtain ⟨h1, h2⟩ := h; rw [bare_z] at h2
  refine Bool.eq_iff_iff.2 ?_
  rw [op_iff]; unfold opC; simp only [Bool.and_eq_true, decide_eq_true_eq]
  constructor
  · rintro ⟨⟨⟨g1, g2⟩, g3⟩, g4⟩; exact ⟨h1, Or.inr ⟨zf_o h2 (by omega), Or.inr (Or.inl ⟨hk, ⟨g1, g2⟩, g3, g4, by omega, by omega⟩)⟩⟩
  · rintro ⟨_, g | ⟨_, g | g | g | g⟩⟩
    · omega
    · omega
    · exact ⟨⟨⟨g.2.1.1, g.2.1.2⟩, g.2.2.1⟩, g.2.2.2.1⟩
    all_goals omega
theorem op_4 {o : OpS} (h : idO o) (hk : o.kd = 4) : (decide (o.d ≥ 0) && decide (o.d ≤ 100000)) = opB o := by
  obtain ⟨h1, h2⟩ := h; rw [bare_z] at h2
  refine Bool.eq_iff_iff.2 ?_
  rw [op_iff]; unfold opC; simp only [Bool.and_eq_true, decide_eq_true_eq]
  constructor
  · rintro ⟨g1, g2⟩; exact ⟨h1, Or.inr ⟨zf_o h2 (by omega), Or.inr (Or.inr (Or.inl ⟨hk, ⟨g1, g2⟩, by omega, by omega, by omega, by omega⟩))⟩⟩
  · rintro ⟨_, g | ⟨_, g | g | g | g⟩⟩ <;> omega
theorem op_5 {o : OpS} (h : idO o) (hk : o.kd = 5) : (decide (o.s ≥ 0) && decide (o.s ≤ 999)) = opB o := by
  obtain ⟨h1, h2⟩ := h; rw [bare_z] at h2
  refine Bool.eq_iff_iff.2 ?_
  rw [op_iff]; unfold opC; simp only [Bool.and_eq_true, decide_eq_true_eq]
  constructor
  · rintro ⟨g1, g2⟩; exact ⟨h1, Or.inr ⟨zf_o h2 (by omega), Or.inr (Or.inr (Or.inr ⟨hk, ⟨g1, g2⟩, by omega, by omega, by omega, by omega⟩))⟩⟩
  · rintro ⟨_, g | ⟨_, g | g | g | g⟩⟩ <;> omega
theorem op_n {o : OpS} (hk : o.kd ≠ 1 ∧ o.kd ≠ 2 ∧ o.kd ≠ 3 ∧ o.kd ≠ 4 ∧ o.kd ≠ 5) : false = opB o := by
  refine Bool.eq_iff_iff.2 ?_
  rw [op_iff]; unfold opC
  refine ⟨fun g => (by cases g), ?_⟩
  rintro ⟨_, g | ⟨_, g | g | g | g⟩⟩ <;> omega
theorem bare_p (o : OpS) (ho : o.f.Ok) : CallsP Tryz.prog 150 [.agg [.g (.int .i64 (o.kd)), .g (.int .i64 (o.id)), .g (.int .i64 (o.f.id)), .g (.int .i64 (o.f.kd)), .g (.int .i64 (o.f.x)), .g (.int .i64 (o.f.y)), .g (.int .i64 (o.f.r)), .lst 2 o.f.n (ptI o.f.P), .g (.int .i64 (o.f.d)), .g (.int .i64 (o.f.s)), .lst 6 o.f.m (ptI o.f.S), .g (.int .i64 (o.x)), .g (.int .i64 (o.y)), .g (.int .i64 (o.r)), .g (.int .i64 (o.d)), .g (.int .i64 (o.s))]] (.t (.agg [.g (.int .i64 ((bareO o).kd)), .g (.int .i64 ((bareO o).id)), .g (.int .i64 ((bareO o).f.id)), .g (.int .i64 ((bareO o).f.kd)), .g (.int .i64 ((bareO o).f.x)), .g (.int .i64 ((bareO o).f.y)), .g (.int .i64 ((bareO o).f.r)), .lst 2 (bareO o).f.n (ptI (bareO o).f.P), .g (.int .i64 ((bareO o).f.d)), .g (.int .i64 ((bareO o).f.s)), .lst 6 (bareO o).f.m (ptI (bareO o).f.S), .g (.int .i64 ((bareO o).x)), .g (.int .i64 ((bareO o).y)), .g (.int .i64 ((bareO o).r)), .g (.int .i64 ((bareO o).d)), .g (.int .i64 ((bareO o).s))])) := by
  refine CallsP_of Tryz.func150 rfl (by rw [Tryz.ntmps150]; simp) ?_
  simp only [Tryz.ntmps150, zM, PT.tv, argEnv, Nat.zero_add, Nat.reduceAdd]
  repeat' (first
 | ((with_reducible show AW _ _ _ _); first
 | (with_reducible first | refine aS (fun K hK => ?_) | refine aI ?_ | refine aT ?_ | refine aC ?_ | refine aB ?_)
 | (first
 | (with_reducible first | refine aP 0 [0] ?_ | refine aP 1 [1,2] ?_ | refine aP 2 [1,2,4] ?_ | refine aP 3 [1,2] ?_ | refine aP 4 [1,2,4] ?_ | refine aP 5 [1,2] ?_ | refine aP 6 [1,2,4] ?_ | refine aP 7 [1,2] ?_ | refine aP 8 [1,2,4] ?_ | refine aP 9 [1,2] ?_ | refine aP 10 [1,2] ?_)))
 | (with_reducible refine retK_n ?_)
 | ((with_reducible show condN _ _ _ _ _ _); first
 | ((with_reducible refine condN_t ?_ ?_) <;> (intro hc; (try simp only [zB, zC, reduceCtorEq] at hc); (try (exfalso; contradiction)))))
 | ((fail_if_success (with_reducible show AW _ _ _ _)); simp (maxSteps := 2000000) only [go_sem, reduceIte, reduceCtorEq, xA, xL, xD, xE, xM, xS, xB, Tryz.f150])
 | ((with_reducible refine hK _ ?_); clear hK K))
  all_goals ((first | rw [bare_1 (by assumption)] | rw [bare_3 (by assumption)] | rw [bare_4 (by assumption)] | rw [bare_5 (by assumption)] | rw [bare_n ⟨by assumption, by assumption, by assumption, by assumption⟩]); (repeat' (first | exact rfl | (with_reducible refine And.intro ?_ ?_) | (intro i q hi hq; exact IV.eqv_refl _))))
theorem sop_p (a b : OpS) (ha : a.f.Ok) (hb : b.f.Ok) : CallsP Tryz.prog 149 [.agg [.g (.int .i64 (a.kd)), .g (.int .i64 (a.id)), .g (.int .i64 (a.f.id)), .g (.int .i64 (a.f.kd)), .g (.int .i64 (a.f.x)), .g (.int .i64 (a.f.y)), .g (.int .i64 (a.f.r)), .lst 2 a.f.n (ptI a.f.P), .g (.int .i64 (a.f.d)), .g (.int .i64 (a.f.s)), .lst 6 a.f.m (ptI a.f.S), .g (.int .i64 (a.x)), .g (.int .i64 (a.y)), .g (.int .i64 (a.r)), .g (.int .i64 (a.d)), .g (.int .i64 (a.s))], .agg [.g (.int .i64 (b.kd)), .g (.int .i64 (b.id)), .g (.int .i64 (b.f.id)), .g (.int .i64 (b.f.kd)), .g (.int .i64 (b.f.x)), .g (.int .i64 (b.f.y)), .g (.int .i64 (b.f.r)), .lst 2 b.f.n (ptI b.f.P), .g (.int .i64 (b.f.d)), .g (.int .i64 (b.f.s)), .lst 6 b.f.m (ptI b.f.S), .g (.int .i64 (b.x)), .g (.int .i64 (b.y)), .g (.int .i64 (b.r)), .g (.int .i64 (b.d)), .g (.int .i64 (b.s))]] (.t (.one (.g (.bool (sopB a b))))) := by
  refine CallsP_of Tryz.func149 rfl (by rw [Tryz.ntmps149]; simp) ?_
  simp only [Tryz.ntmps149, zM, PT.tv, argEnv, Nat.zero_add, Nat.reduceAdd]
  repeat' (first
 | ((with_reducible show AW _ _ _ _); first
 | (with_reducible first | refine aS (fun K hK => ?_) | refine aT ?_)
 | (first
 | (with_reducible first | refine aP 0 [0,1] ?_ | refine aP 1 [2,3] ?_)))
 | (((with_reducible refine Need.mk ?_)); focus ((intro _; (with_reducible assumption))))
 | (with_reducible refine retK_n ?_)
 | ((with_reducible show callGN _ _ _ _ _ _ _ _ _ _); first
 | (refine callGN_q (k := 180) fnok_180 (fun hg => fsame_p _ _ ha hb) ?_ ?_))
 | ((fail_if_success (with_reducible show AW _ _ _ _)); simp (maxSteps := 2000000) only [go_sem, reduceIte, reduceCtorEq, xA, xL, xD, xE, xM, xS, xB, Tryz.f149, Go.Sea.cmpS])
 | ((with_reducible refine hK _ ?_); clear hK K))
  all_goals (unfold sopB; refine Bool.eq_iff_iff.2 ?_; simp only [Bool.and_eq_true, decide_eq_true_eq, beq_iff_eq, and_assoc])
theorem sopz_p (a : OpS) (ha : a.f.Ok) (k i : Int) : CallsP Tryz.prog 149 [.agg [.g (.int .i64 (a.kd)), .g (.int .i64 (a.id)), .g (.int .i64 (a.f.id)), .g (.int .i64 (a.f.kd)), .g (.int .i64 (a.f.x)), .g (.int .i64 (a.f.y)), .g (.int .i64 (a.f.r)), .lst 2 a.f.n (ptI a.f.P), .g (.int .i64 (a.f.d)), .g (.int .i64 (a.f.s)), .lst 6 a.f.m (ptI a.f.S), .g (.int .i64 (a.x)), .g (.int .i64 (a.y)), .g (.int .i64 (a.r)), .g (.int .i64 (a.d)), .g (.int .i64 (a.s))], .agg [.g (.int .i64 k), .g (.int .i64 i), .g (.int .i64 0), .g (.int .i64 0), .g (.int .i64 0), .g (.int .i64 0), .g (.int .i64 0), .g (.slice none 0 0), .g (.int .i64 0), .g (.int .i64 0), .g (.slice none 0 0), .g (.int .i64 0), .g (.int .i64 0), .g (.int .i64 0), .g (.int .i64 0), .g (.int .i64 0)]] (.t (.one (.g (.bool (sopB a (zOp k i)))))) := by
  exact (sop_p a (zOp k i) ha feat0_ok).eqv (by simp [zOp, feat0, All2, PT.eqv, IV.eqv]; exact ⟨fun i o _ _ => IV.eqv_refl _, fun i o _ _ => IV.eqv_refl _⟩) (PV.eqv_refl _)
theorem Op_p (o : OpS) (ho : o.f.Ok) : CallsP Tryz.prog 126 [.agg [.g (.int .i64 (o.kd)), .g (.int .i64 (o.id)), .g (.int .i64 (o.f.id)), .g (.int .i64 (o.f.kd)), .g (.int .i64 (o.f.x)), .g (.int .i64 (o.f.y)), .g (.int .i64 (o.f.r)), .lst 2 o.f.n (ptI o.f.P), .g (.int .i64 (o.f.d)), .g (.int .i64 (o.f.s)), .lst 6 o.f.m (ptI o.f.S), .g (.int .i64 (o.x)), .g (.int .i64 (o.y)), .g (.int .i64 (o.r)), .g (.int .i64 (o.d)), .g (.int .i64 (o.s))]] (.t (.one (.g (.bool (opB o))))) := by
  refine CallsP_of Tryz.func126 rfl (by rw [Tryz.ntmps126]; simp) ?_
  simp only [Tryz.ntmps126, zM, PT.tv, argEnv, Nat.zero_add, Nat.reduceAdd]
  repeat' (first
 | ((with_reducible show AW _ _ _ _); first
 | (with_reducible first | refine aS (fun K hK => ?_) | refine aI ?_ | refine aT ?_ | refine aC ?_ | refine aB ?_)
 | (first
 | (with_reducible refine aP 0 [0] ?_)
 | ((with_reducible refine aR (c := Code.region 1 _ true) [1] ?_); (with_reducible refine aD ?_ ?_ ?_ ?_); (focus kernel_rfl); (focus kernel_rfl); (focus kernel_rfl))
 | (with_reducible first | refine aP 2 [] ?_ | refine aP 3 [1] ?_ | refine aP 4 [1,23] ?_ | refine aP 5 [1] ?_ | refine aP 6 [1,23] ?_ | refine aP 7 [] ?_ | refine aP 8 [1,23] ?_ | refine aP 9 [1] ?_ | refine aP 10 [1,23] ?_ | refine aP 11 [1] ?_ | refine aP 12 [1,23] ?_ | refine aP 13 [1] ?_ | refine aP 14 [] ?_)))
 | ((first | (with_reducible refine And.intro ?_ ?_) | (with_reducible refine Need.mk ?_)); focus (first | (intro _; (with_reducible assumption)) | (simp; done)))
 | (with_reducible refine retK_n ?_)
 | ((with_reducible show condN _ _ _ _ _ _); first
 | ((with_reducible refine condN_t ?_ ?_) <;> (intro hc; (try simp only [zB, zC, reduceCtorEq] at hc); (try (exfalso; contradiction)))))
 | ((with_reducible refine And.intro ?_ ?_); focus ((with_reducible show chkR _ _ _ = true); kernel_rfl))
 | ((with_reducible show callDGN _ _ _ _ _ _ _ _ _ _ _ _ _); first
 | (refine callDGN_q (k := 150) fnok_150 (fun hg => bare_p o ho) ?_ ?_)
 | (refine callDGN_q (k := 149) fnok_149 (fun hg => sopz_p (bareO o) (bareO_ok ho) _ _) ?_ ?_))
 | ((with_reducible show callGN _ _ _ _ _ _ _ _ _ _); first
 | (refine callGN_q (k := 115) fnok_115 (fun hg => Feat_p _ ho) ?_ ?_)
 | (refine callGN_q (k := 140) fnok_140 (fun hg => ptV_p _ _) ?_ ?_)
 | (refine callGN_q (k := 151) fnok_151 (fun hg => nroom_p _ _ _ (by simp only [Bool.and_eq_true, decide_eq_true_eq] at hg; exact hg.2) (by simp only [Bool.and_eq_true, decide_eq_true_eq] at hg; omega)) ?_ ?_))
 | ((fail_if_success (with_reducible show AW _ _ _ _)); simp (maxSteps := 2000000) only [go_sem, reduceIte, reduceCtorEq, xA, xL, xD, xE, xM, xS, xB, Tryz.f126])
 | ((with_reducible refine hK _ ?_); clear hK K))
  all_goals (first | exact op_f (by assumption) | exact op_1 (by assumption) (by assumption) | exact op_2 (by assumption) (by assumption) | exact op_3 (by assumption) (by assumption) | exact op_4 (by assumption) (by assumption) | exact op_5 (by assumption) (by assumption) | exact op_n (by omega))
end Go.Proofs.YtmnejmpjmniiiaaGreatDoor
set_option maxRecDepth 100000
set_option maxHeartbeats 4000000
namespace Go.Proofs.YtmnejmpjmniiiaaGreatDoor
open Go.RowKit Go.Sea
open Nat renaming reduceAdd → xA, reduceLT → xL, reduceLeDiff → xD, reduceEqDiff → xE, reduceMul → xM, reduceSub → xS, reduceBEq → xB
theorem ar_54 : arD Tryz.prog 54 = none := by kernel_rfl
theorem fnok_96 : fnOk Tryz.prog 96 = true := by kernel_rfl
theorem fnok_126 : fnOk Tryz.prog 126 = true := by kernel_rfl
theorem fnok_104 : fnOk Tryz.prog 104 = true := by kernel_rfl
theorem fnok_101 : fnOk Tryz.prog 101 = true := by kernel_rfl
theorem fnok_45 : fnOk Tryz.prog 45 = true := by kernel_rfl
theorem le_54 : lenD Tryz.prog 54 = some true := by kernel_rfl
theorem sl_54 : slD Tryz.prog 54 = some (16, 160, 112) := by kernel_rfl
theorem ty_27 : tyD Tryz.prog 27 = some (false, 1) := by kernel_rfl
theorem ty_54 : tyD Tryz.prog 54 = some (false, 1) := by kernel_rfl
attribute [go_sem] ar_54 fnok_96 fnok_126 fnok_104 fnok_101 fnok_45 le_54 sl_54 ty_27 ty_54
def intI (s : Nat → Int) (i o : Nat) : IV := .g (.int .i64 (s i))
structure PartS where
  ch : Int
  q : Nat
  a : Nat → Int
  k : Nat
  o : Nat → OpS
structure NotS where
  oc : Int
  nu : Int
  kd : Int
  fr : Int
  un : Int
  ca : Int
  n : Nat
  p : Nat → PartS
structure PartS.Ok (p : PartS) : Prop where
  q : p.q ≤ 9223372036854775807
  k : p.k ≤ 9223372036854775807
  o : ∀ i, i < p.k → (p.o i).f.Ok
structure NotS.Ok (N : NotS) : Prop where
  n : N.n ≤ 9223372036854775807
  p : ∀ i, i < N.n → (N.p i).Ok
def oprG : OpS → Nat → IV
  | o, 0 => .g (.int .i64 (o.kd))
  | o, 1 => .g (.int .i64 (o.id))
  | o, 2 => .g (.int .i64 (o.f.id))
  | o, 3 => .g (.int .i64 (o.f.kd))
  | o, 4 => .g (.int .i64 (o.f.x))
  | o, 5 => .g (.int .i64 (o.f.y))
  | o, 6 => .g (.int .i64 (o.f.r))
  | o, 7 => .lst 2 o.f.n (ptI o.f.P)
  | o, 8 => .g (.int .i64 (o.f.d))
  | o, 9 => .g (.int .i64 (o.f.s))
  | o, 10 => .lst 6 o.f.m (ptI o.f.S)
  | o, 11 => .g (.int .i64 (o.x))
  | o, 12 => .g (.int .i64 (o.y))
  | o, 13 => .g (.int .i64 (o.r))
  | o, 14 => .g (.int .i64 (o.d))
  | o, _ + 15 => .g (.int .i64 (o.s))
def oprF (o : Nat → OpS) (i c : Nat) : IV := oprG (o i) c
theorem oprF0 (o : Nat → OpS) (i : Nat) : oprF o i 0 = .g (.int .i64 ((o i).kd)) := rfl
theorem oprF1 (o : Nat → OpS) (i : Nat) : oprF o i 1 = .g (.int .i64 ((o i).id)) := rfl
theorem oprF2 (o : Nat → OpS) (i : Nat) : oprF o i 2 = .g (.int .i64 ((o i).f.id)) := rfl
theorem oprF3 (o : Nat → OpS) (i : Nat) : oprF o i 3 = .g (.int .i64 ((o i).f.kd)) := rfl
theorem oprF4 (o : Nat → OpS) (i : Nat) : oprF o i 4 = .g (.int .i64 ((o i).f.x)) := rfl
theorem oprF5 (o : Nat → OpS) (i : Nat) : oprF o i 5 = .g (.int .i64 ((o i).f.y)) := rfl
theorem oprF6 (o : Nat → OpS) (i : Nat) : oprF o i 6 = .g (.int .i64 ((o i).f.r)) := rfl
theorem oprF7 (o : Nat → OpS) (i : Nat) : oprF o i 7 = .lst 2 (o i).f.n (ptI (o i).f.P) := rfl
theorem oprF8 (o : Nat → OpS) (i : Nat) : oprF o i 8 = .g (.int .i64 ((o i).f.d)) := rfl
theorem oprF9 (o : Nat → OpS) (i : Nat) : oprF o i 9 = .g (.int .i64 ((o i).f.s)) := rfl
theorem oprF10 (o : Nat → OpS) (i : Nat) : oprF o i 10 = .lst 6 (o i).f.m (ptI (o i).f.S) := rfl
theorem oprF11 (o : Nat → OpS) (i : Nat) : oprF o i 11 = .g (.int .i64 ((o i).x)) := rfl
theorem oprF12 (o : Nat → OpS) (i : Nat) : oprF o i 12 = .g (.int .i64 ((o i).y)) := rfl
theorem oprF13 (o : Nat → OpS) (i : Nat) : oprF o i 13 = .g (.int .i64 ((o i).r)) := rfl
theorem oprF14 (o : Nat → OpS) (i : Nat) : oprF o i 14 = .g (.int .i64 ((o i).d)) := rfl
theorem oprF15 (o : Nat → OpS) (i : Nat) : oprF o i 15 = .g (.int .i64 ((o i).s)) := rfl
attribute [go_sem] oprF0 oprF1 oprF2 oprF3 oprF4 oprF5 oprF6 oprF7 oprF8 oprF9 oprF10 oprF11 oprF12 oprF13 oprF14 oprF15
def partG : PartS → Nat → IV
  | p, 0 => .g (.int .i64 p.ch)
  | p, 1 => .lst 1 p.q (intI p.a)
  | p, _ + 2 => .lst 16 p.k (oprF p.o)
def partF (p : Nat → PartS) (i c : Nat) : IV := partG (p i) c
theorem partF0 (p : Nat → PartS) (i : Nat) : partF p i 0 = .g (.int .i64 (p i).ch) := rfl
theorem partF1 (p : Nat → PartS) (i : Nat) : partF p i 1 = .lst 1 (p i).q (intI (p i).a) := rfl
theorem partF2 (p : Nat → PartS) (i : Nat) : partF p i 2 = .lst 16 (p i).k (oprF (p i).o) := rfl
attribute [go_sem] partF0 partF1 partF2
def aftO (a : Nat → Int) (nu : Int) (i : Nat) : Prop := 1 ≤ a i ∧ a i < nu ∧ (0 < i → a (i - 1) < a i)
instance (a : Nat → Int) (nu : Int) (i : Nat) : Decidable (aftO a nu i) := by unfold aftO; infer_instance
def partO (p : PartS) (nu : Int) : Prop := ((1 ≤ p.ch ∧ p.ch ≤ 1000) ∧ p.q ≤ 100 ∧ p.k ≤ 100) ∧ (∀ i, i < p.q → aftO p.a nu i) ∧ ∀ i, i < p.k → opB (p.o i) = true
instance (p : PartS) (nu : Int) : Decidable (partO p nu) := by unfold partO; infer_instance
def partB (p : PartS) (nu : Int) : Bool := decide (partO p nu)
def termO (n : NotS) : Prop := (n.kd = 1 ∨ n.kd = 3) ∧ n.un = 0 ∧ n.ca = 0 ∨ n.kd = 2 ∧ n.fr < n.un ∧ 0 ≤ n.un ∧ n.un ≤ 10000000 ∧ n.ca = 0 ∨ n.kd = 4 ∧ n.un = 0 ∧ 1 ≤ n.ca ∧ n.ca < n.nu ∧ n.n = 0
instance (n : NotS) : Decidable (termO n) := by unfold termO; infer_instance
def notH (n : NotS) : Prop := ((1 ≤ n.oc ∧ n.oc ≤ 20) ∧ (1 ≤ n.nu ∧ n.nu ≤ 10000) ∧ (0 ≤ n.fr ∧ n.fr ≤ 10000000)) ∧ termO n ∧ n.n ≤ 20
instance (n : NotS) : Decidable (notH n) := by unfold notH; infer_instance
def npO (p : Nat → PartS) (nu : Int) (i : Nat) : Prop := (0 < i → (p (i - 1)).ch < (p i).ch) ∧ partB (p i) nu = true
instance (p : Nat → PartS) (nu : Int) (i : Nat) : Decidable (npO p nu i) := by unfold npO; infer_instance
end Go.Proofs.YtmnejmpjmniiiaaGreatDoor
namespace Go.Proofs.YtmnejmpjmniiiaaGreatDoor
open Go.RowKit Go.Sea
open Nat renaming reduceAdd → xA, reduceLT → xL, reduceLeDiff → xD, reduceEqDiff → xE, reduceMul → xM, reduceSub → xS, reduceBEq → xB
theorem ar_22 : arD Tryz.prog 22 = none := by kernel_rfl
theorem le_22 : lenD Tryz.prog 22 = some true := by kernel_rfl
theorem sl_22 : slD Tryz.prog 22 = some (9, 104, 66) := by kernel_rfl
attribute [go_sem] ar_22 le_22 sl_22
def featG : Feat → Nat → IV
  | f, 0 => .g (.int .i64 (f.id))
  | f, 1 => .g (.int .i64 (f.kd))
  | f, 2 => .g (.int .i64 (f.x))
  | f, 3 => .g (.int .i64 (f.y))
  | f, 4 => .g (.int .i64 (f.r))
  | f, 5 => .lst 2 f.n (ptI f.P)
  | f, 6 => .g (.int .i64 (f.d))
  | f, 7 => .g (.int .i64 (f.s))
  | f, _ + 8 => .lst 6 f.m (ptI f.S)
def featF (f : Nat → Feat) (i c : Nat) : IV := featG (f i) c
theorem featF0 (f : Nat → Feat) (i : Nat) : featF f i 0 = .g (.int .i64 ((f i).id)) := rfl
theorem featF1 (f : Nat → Feat) (i : Nat) : featF f i 1 = .g (.int .i64 ((f i).kd)) := rfl
theorem featF2 (f : Nat → Feat) (i : Nat) : featF f i 2 = .g (.int .i64 ((f i).x)) := rfl
theorem featF3 (f : Nat → Feat) (i : Nat) : featF f i 3 = .g (.int .i64 ((f i).y)) := rfl
theorem featF4 (f : Nat → Feat) (i : Nat) : featF f i 4 = .g (.int .i64 ((f i).r)) := rfl
theorem featF5 (f : Nat → Feat) (i : Nat) : featF f i 5 = .lst 2 (f i).n (ptI (f i).P) := rfl
theorem featF6 (f : Nat → Feat) (i : Nat) : featF f i 6 = .g (.int .i64 ((f i).d)) := rfl
theorem featF7 (f : Nat → Feat) (i : Nat) : featF f i 7 = .g (.int .i64 ((f i).s)) := rfl
theorem featF8 (f : Nat → Feat) (i : Nat) : featF f i 8 = .lst 6 (f i).m (ptI (f i).S) := rfl
attribute [go_sem] featF0 featF1 featF2 featF3 featF4 featF5 featF6 featF7 featF8
def lstI (f : Nat → Feat) (i : Nat) : Int := if i = 0 then 0 else (f (i - 1)).id
theorem lstI_s (f : Nat → Feat) (i : Nat) : lstI f (i + 1) = (f i).id := by simp [lstI]
def feaO (f : Nat → Feat) (i : Nat) : Prop := featB (f i) = true ∧ (0 < i → (f (i - 1)).id < (f i).id)
instance (f : Nat → Feat) (i : Nat) : Decidable (feaO f i) := by unfold feaO; infer_instance
def feaB (n : Nat) (f : Nat → Feat) : Bool := decide (n ≤ 300 ∧ ∀ i, i < n → feaO f i)
theorem feat_id {f : Feat} (h : featB f = true) : 1 ≤ f.id := ((feat_iff f).1 h).1.1
theorem fea_f {n : Nat} {f : Nat → Feat} {i : Nat} (hi : (i : Int) < n) (h : featB (f i) = false ∨ (f i).id ≤ lstI f i) : false = feaB n f := (decide_eq_false fun g => by
  have g1 := g.2 i (by omega)
  rcases h with h | h
  · rw [g1.1] at h; cases h
  · have := feat_id g1.1
    unfold lstI at h
    by_cases h0 : i = 0
    · rw [if_pos h0] at h; omega
    · rw [if_neg h0] at h; have := g1.2 (by omega); omega).symm
theorem fea_s {f : Nat → Feat} {i : Nat} (h : featB (f i) = true ∧ lstI f i < (f i).id) : feaO f i := by
  refine ⟨h.1, fun h0 => ?_⟩
  have := h.2
  unfold lstI at this; rw [if_neg (by omega)] at this; exact this
theorem fea_t {n : Nat} {f : Nat → Feat} {i : Nat} (hi : (n : Int) ≤ i) (g : ∀ i', i' < i → feaO f i') : decide ((n : Int) ≤ 300) = feaB n f := by
  unfold feaB; exact decide_eq_decide.2 ⟨fun h => ⟨by omega, fun k hk => g k (by omega)⟩, fun h => by omega⟩
structure DatS where
  A : Int
  B : Int
  C : Int
  D : Int
  E : Int
  F : Int
  R : Int
def datO (m : DatS) : Prop := ((-2000000 ≤ m.A ∧ m.A ≤ 2000000) ∧ (-2000000 ≤ m.B ∧ m.B ≤ 2000000) ∧ (-2000000 ≤ m.D ∧ m.D ≤ 2000000) ∧ (-2000000 ≤ m.E ∧ m.E ≤ 2000000)) ∧ 250000000000 ≤ m.A * m.E - m.B * m.D ∧ (-100000 ≤ m.C ∧ m.C ≤ 100000) ∧ (-100000 ≤ m.F ∧ m.F ≤ 100000) ∧ (0 ≤ m.R ∧ m.R ≤ 1000)
instance (m : DatS) : Decidable (datO m) := by unfold datO; infer_instance
structure ShtS where
  ch : Int
  sc : Int
  ed : Int
  m : DatS
  cap : Int
  q : Nat
  dn : Nat → Int
  n : Nat
  f : Nat → Feat
structure ShtS.Ok (s : ShtS) : Prop where
  q : s.q ≤ 9223372036854775807
  n : s.n ≤ 9223372036854775807
  f : ∀ i, i < s.n → (s.f i).Ok
set_option maxRecDepth 100000 in
set_option maxHeartbeats 4000000 in
theorem flist_p (n : Nat) (f : Nat → Feat) (hn : n ≤ 9223372036854775807) (hf : ∀ i, i < n → (f i).Ok) : CallsP Tryz.prog 89 [.one (.lst 9 n (featF f))] (.t (.one (.g (.bool (feaB n f))))) := by
  refine CallsP_of Tryz.func89 rfl (by rw [Tryz.ntmps89]; simp) ?_
  simp only [Tryz.ntmps89, zM, PT.tv, argEnv, Nat.zero_add, Nat.reduceAdd]
  repeat' (first
 | ((with_reducible show AW _ _ _ _); first
 | (with_reducible first | refine aS (fun K hK => ?_) | refine aI ?_ | refine aX ?_ | refine aT ?_ | refine aC ?_ | refine aB ?_)
 | (first
 | (with_reducible first | refine aP 0 [0] ?_ | refine aP 1 [0] ?_ | refine aP 2 [0,3] ?_ | refine aP 3 [0,3,6,7,8] ?_ | refine aP 4 [0,3,6,7,8] ?_ | refine aP 5 [0,3,5,6,7,8] ?_ | refine aP 6 [] ?_ | refine aP 7 [0,5,6,7,8] ?_ | refine aP 8 [0,3,6,7,8] ?_ | refine aP 9 [0] ?_))
 | ((with_reducible show AW _ (Code.loop _) _ _); first
 | ((with_reducible refine aL (c := (Code.seq (Code.region 3 _ _) _)) (ι := Nat) [0,6,7] (fun i => [(3, iA .i64 (lstI f i)), (8, iA .i64 (i : Int))]) (fun i => []) (fun i => i ≤ n ∧ (∀ i', i' < i → feaO f i')) (fun i => n - i) 0 ?lg3 ?l13 ?l23 ?li3 ?lr3); (case' lg3 => rintro i _); (case' li3 => try (exact ⟨Nat.zero_le _, fun i hi => absurd hi (Nat.not_lt_zero _)⟩)); (case' lr3 => rintro i ⟨hi, hai⟩ KR hR3; simp only [keepE, hupd, hset, lk, if_true, if_false, xE, reduceIte, zN, lstI_s]))))
 | ((first | (with_reducible refine And.intro ?_ ?_) | (with_reducible refine Need.mk ?_)); focus (first | exact True.intro | omega | (simp; done)))
 | (with_reducible refine retK_n ?_)
 | ((with_reducible show condN _ _ _ _ _ _); first
 | ((with_reducible refine condN_t ?_ ?_) <;> (intro hc; (try simp only [zB, zC, reduceCtorEq] at hc); (try (exfalso; contradiction)))))
 | ((with_reducible show callN _ _ _ _ _ _ _ _ _ _); first
 | (refine callN_q (k := 115) fnok_115 (Feat_p (f i) (hf i (by omega))) ?_ ?_))
 | ((with_reducible refine hR3 _ (i + 1) ?_); (try clear hR3 KR))
 | ((with_reducible refine Told.mk ?_); simp only [go_sem, reduceIte, reduceCtorEq, xA, xL, xD, xE, xM, xS, xB, lstI_s] <;> ((((try simp (disch := omega) only [seaWrap, Int.natCast_add, Int.cast_ofNat_Int, and_true, true_and, and_self]); (repeat' (first | omega | rfl | (with_reducible refine And.intro ?_ ?_) | ((exact all_succ (by assumption) (fea_s hc))))); done))))
 | ((fail_if_success (with_reducible show AW _ _ _ _)); simp (maxSteps := 2000000) only [go_sem, reduceIte, reduceCtorEq, xA, xL, xD, xE, xM, xS, xB, Tryz.f89, lstI_s])
 | ((with_reducible refine hK _ ?_); clear hK K)
 | (with_reducible apply_assumption -exfalso only [*]))
  all_goals first | exact fea_f (by assumption) hc | exact fea_t (by assumption) hai | skip
end Go.Proofs.YtmnejmpjmniiiaaGreatDoor
set_option maxRecDepth 100000
set_option maxHeartbeats 4000000
namespace Go.Proofs.YtmnejmpjmniiiaaGreatDoor
open Go.RowKit Go.Sea
open Nat renaming reduceAdd → xA, reduceLT → xL, reduceLeDiff → xD, reduceEqDiff → xE, reduceMul → xM, reduceSub → xS, reduceBEq → xB
theorem fnok_116 : fnOk Tryz.prog 116 = true := by kernel_rfl
theorem fnok_98 : fnOk Tryz.prog 98 = true := by kernel_rfl
theorem fnok_168 : fnOk Tryz.prog 168 = true := by kernel_rfl
attribute [go_sem] fnok_98 fnok_168
def chgE (f : Feat) (o : OpS) : Int := if (o.kd = 3 ∧ ((f.kd = 3 ∨ f.kd = 6) ∨ f.kd = 4 ∧ o.r ≠ 0)) ∨ (o.kd = 4 ∧ (f.kd = 4 ∨ f.kd = 6)) then 12 else 0
def chgF (f : Feat) (o : OpS) : Feat := if o.kd = 3 then { f with x := o.x, y := o.y, r := o.r } else if o.kd = 4 then { f with d := o.d } else if o.kd = 5 then { f with s := o.s } else f
def idx (L : List Feat) (k : Int) : Option Feat := L.find? fun f => f.id = k
def putL (L : List Feat) (f : Feat) : List Feat := L.filter (fun g => g.id < f.id) ++ f :: L.filter (fun g => f.id < g.id)
def cutL (L : List Feat) (k : Int) : List Feat := L.filter fun g => g.id ≠ k
def asc (L : List Feat) : Prop := L.Pairwise fun f g => f.id < g.id
def doL (L : List Feat) (o : OpS) : Int × List Feat :=
  if o.kd = 1 then (match idx L o.id with
    | some _ => (5, L)
    | none => if 300 ≤ L.length then (2, L) else (0, putL L o.f))
  else match idx L o.id with
    | none => (4, L)
    | some f => if o.kd = 2 then (0, cutL L o.id) else if chgE f o = 0 then (0, putL (cutL L o.id) (chgF f o)) else (chgE f o, L)
theorem chgF_id (f : Feat) (o : OpS) : (chgF f o).id = f.id := by
  unfold chgF; repeat' split
  all_goals rfl
theorem idx_some {L : List Feat} {k : Int} {f : Feat} (h : idx L k = some f) : f ∈ L ∧ f.id = k := by
  have h1 := List.find?_some h
  exact ⟨List.mem_of_find?_eq_some h, by simpa using h1⟩
theorem idx_none {L : List Feat} {k : Int} : idx L k = none ↔ ∀ f, f ∈ L → f.id ≠ k := by
  unfold idx; rw [List.find?_eq_none]; simp
theorem idx_mem {L : List Feat} (h : asc L) {f : Feat} (hf : f ∈ L) : idx L f.id = some f := by
  induction L with
  | nil => cases hf
  | cons g L ih =>
    have h1 := List.pairwise_cons.1 h
    unfold idx
    rw [List.find?_cons]
    rcases List.mem_cons.1 hf with e | e
    · subst e; simp
    · have := h1.1 f e
      rw [decide_eq_false (by omega)]
      exact ih h1.2 e
theorem asc_filter {L : List Feat} (h : asc L) (p : Feat → Bool) : asc (L.filter p) := List.Pairwise.filter p h
theorem asc_cut {L : List Feat} (h : asc L) (k : Int) : asc (cutL L k) := asc_filter h _
theorem asc_put {L : List Feat} (h : asc L) (f : Feat) : asc (putL L f) := by
  unfold putL asc
  rw [List.pairwise_append]
  refine ⟨asc_filter h _, List.pairwise_cons.2 ⟨fun g hg => ?_, asc_filter h _⟩, fun a ha b hb => ?_⟩
  · simpa using (List.mem_filter.1 hg).2
  · have h1 : a.id < f.id := by simpa using (List.mem_filter.1 ha).2
    rcases List.mem_cons.1 hb with e | e
    · subst e; exact h1
    · have h2 : f.id < b.id := by simpa using (List.mem_filter.1 e).2
      omega
theorem mem_put {L : List Feat} {f g : Feat} : g ∈ putL L f ↔ g = f ∨ (g ∈ L ∧ g.id ≠ f.id) := by
  unfold putL
  simp only [List.mem_append, List.mem_cons, List.mem_filter, decide_eq_true_eq]
  constructor
  · rintro (⟨h1, h2⟩ | h | ⟨h1, h2⟩)
    · exact Or.inr ⟨h1, by omega⟩
    · exact Or.inl h
    · exact Or.inr ⟨h1, by omega⟩
  · rintro (h | ⟨h1, h2⟩)
    · exact Or.inr (Or.inl h)
    · rcases Int.lt_or_lt_of_ne h2 with h3 | h3
      · exact Or.inl ⟨h1, h3⟩
      · exact Or.inr (Or.inr ⟨h1, h3⟩)
theorem mem_cut {L : List Feat} {k : Int} {g : Feat} : g ∈ cutL L k ↔ g ∈ L ∧ g.id ≠ k := by
  unfold cutL; simp [List.mem_filter]
theorem idx_put {L : List Feat} (h : asc L) (f : Feat) (k : Int) : idx (putL L f) k = if k = f.id then some f else idx L k := by
  by_cases hk : k = f.id
  · rw [if_pos hk, hk]; exact idx_mem (asc_put h f) (mem_put.2 (Or.inl rfl))
  · rw [if_neg hk]
    cases hi : idx L k with
    | none =>
      rw [idx_none] at hi ⊢
      intro g hg
      rcases mem_put.1 hg with e | e
      · subst e; exact fun h' => hk h'.symm
      · exact hi g e.1
    | some g =>
      obtain ⟨h1, h2⟩ := idx_some hi
      rw [← h2]
      exact idx_mem (asc_put h f) (mem_put.2 (Or.inr ⟨h1, by omega⟩))
theorem idx_cut {L : List Feat} (h : asc L) (c k : Int) : idx (cutL L c) k = if k = c then none else idx L k := by
  by_cases hk : k = c
  · rw [if_pos hk, hk, idx_none]
    intro g hg; exact (mem_cut.1 hg).2
  · rw [if_neg hk]
    cases hi : idx L k with
    | none =>
      rw [idx_none] at hi ⊢
      intro g hg; exact hi g (mem_cut.1 hg).1
    | some g =>
      obtain ⟨h1, h2⟩ := idx_some hi
      rw [← h2]
      exact idx_mem (asc_cut h c) (mem_cut.2 ⟨h1, by omega⟩)
theorem len_cut {L : List Feat} (h : asc L) {k : Int} {f : Feat} (hf : idx L k = some f) : (cutL L k).length + 1 = L.length := by
  induction L with
  | nil => simp [idx] at hf
  | cons g L ih =>
    have h1 := List.pairwise_cons.1 h
    unfold cutL
    rw [List.filter_cons]
    by_cases hg : g.id = k
    · have e : L.filter (fun g => decide (g.id ≠ k)) = L := List.filter_eq_self.2 fun a ha => by
        have := h1.1 a ha
        simp; omega
      rw [if_neg (by simp [hg]), e]; rfl
    · have hf' : idx L k = some f := by
        unfold idx at hf ⊢
        rw [List.find?_cons, decide_eq_false hg] at hf
        exact hf
      have := ih h1.2 hf'
      unfold cutL at this
      simp [hg]; simpa using this
theorem len_put {L : List Feat} {f : Feat} (hf : idx L f.id = none) : (putL L f).length = L.length + 1 := by
  have h := idx_none.1 hf
  clear hf
  unfold putL
  rw [List.length_append, List.length_cons]
  induction L with
  | nil => rfl
  | cons g L ih =>
    have h1 := h g (List.mem_cons_self ..)
    have h2 := ih fun a ha => h a (List.mem_cons_of_mem _ ha)
    rw [List.filter_cons, List.filter_cons]
    rcases Int.lt_or_lt_of_ne h1 with h3 | h3
    · have h4 : ¬ f.id < g.id := by omega
      simp [h3, h4] at h2 ⊢; omega
    · have h4 : ¬ g.id < f.id := by omega
      simp [h3, h4] at h2 ⊢; omega
theorem rise_eq : ∀ {l m : List Int}, l.Pairwise (· < ·) → m.Pairwise (· < ·) → (∀ x, x ∈ l ↔ x ∈ m) → l = m
  | [], [], _, _, _ => rfl
  | [], b :: m, _, _, h => absurd ((h b).2 (List.mem_cons_self ..)) (List.not_mem_nil)
  | a :: l, [], _, _, h => absurd ((h a).1 (List.mem_cons_self ..)) (List.not_mem_nil)
  | a :: l, b :: m, hl, hm, h => by
    have hl1 := List.pairwise_cons.1 hl
    have hm1 := List.pairwise_cons.1 hm
    have hab : a = b := by
      have h1 := (h a).1 (List.mem_cons_self ..)
      have h2 := (h b).2 (List.mem_cons_self ..)
      rcases List.mem_cons.1 h1 with e | e
      · exact e
      · rcases List.mem_cons.1 h2 with e2 | e2
        · exact e2.symm
        · have := hl1.1 b e2
          have := hm1.1 a e
          omega
    subst hab
    have : l = m := rise_eq hl1.2 hm1.2 fun x => by
      constructor
      · intro hx
        have h1 := hl1.1 x hx
        rcases List.mem_cons.1 ((h x).1 (List.mem_cons_of_mem _ hx)) with e | e
        · omega
        · exact e
      · intro hx
        have h1 := hm1.1 x hx
        rcases List.mem_cons.1 ((h x).2 (List.mem_cons_of_mem _ hx)) with e | e
        · omega
        · exact e
    rw [this]
theorem asc_ids {L : List Feat} (h : asc L) : (L.map (·.id)).Pairwise (· < ·) := List.pairwise_map.2 h
theorem keys_list {L : List Feat} (h : asc L) {ks : List Int} (hk : ks.Pairwise (· < ·)) (hm : ∀ x, x ∈ ks ↔ idx L x ≠ none) : ks = L.map (·.id) := by
  refine rise_eq hk (asc_ids h) fun x => ?_
  rw [hm]
  constructor
  · intro hx
    cases hi : idx L x with
    | none => exact absurd hi hx
    | some f => exact List.mem_map.2 ⟨f, idx_some hi⟩
  · intro hx
    obtain ⟨f, h1, h2⟩ := List.mem_map.1 hx
    rw [← h2, idx_mem h h1]; simp
theorem doL_asc {L : List Feat} (h : asc L) (o : OpS) : asc (doL L o).2 := by
  unfold doL
  repeat' split
  all_goals first | exact h | exact asc_put h _ | exact asc_cut h _ | exact asc_put (asc_cut h _) _
def opsB (k : Nat) (o : Nat → OpS) : Bool := decide (k ≤ 100 ∧ ∀ i, i < k → opB (o i) = true)
def bkO (f : Feat) (o : OpS) : OpS := if chgE f o ≠ 0 then ⟨o.kd, o.id, feat0, 0, 0, 0, 0, 0⟩ else if o.kd = 3 then ⟨o.kd, o.id, feat0, f.x, f.y, f.r, 0, 0⟩ else if o.kd = 4 then ⟨o.kd, o.id, feat0, 0, 0, 0, f.d, 0⟩ else ⟨o.kd, o.id, feat0, 0, 0, 0, 0, f.s⟩
def chgX (f : Feat) (o : OpS) : Feat := if chgE f o ≠ 0 then f else chgF f o
theorem chg_e {f : Feat} {o : OpS} (h : (o.kd = 3 ∧ ((f.kd = 3 ∨ f.kd = 6) ∨ f.kd = 4 ∧ o.r ≠ 0)) ∨ (o.kd = 4 ∧ (f.kd = 4 ∨ f.kd = 6))) : chgE f o = 12 ∧ chgX f o = f ∧ bkO f o = ⟨o.kd, o.id, feat0, 0, 0, 0, 0, 0⟩ := by
  have e : chgE f o = 12 := by unfold chgE; rw [if_pos h]
  exact ⟨e, by unfold chgX; rw [if_pos (by omega)], by unfold bkO; rw [if_pos (by omega)]⟩
theorem chg_0 {f : Feat} {o : OpS} (h : ¬ ((o.kd = 3 ∧ ((f.kd = 3 ∨ f.kd = 6) ∨ f.kd = 4 ∧ o.r ≠ 0)) ∨ (o.kd = 4 ∧ (f.kd = 4 ∨ f.kd = 6)))) : chgE f o = 0 ∧ chgX f o = chgF f o := by
  have e : chgE f o = 0 := by unfold chgE; rw [if_neg h]
  exact ⟨e, by unfold chgX; rw [if_neg (by omega)]⟩
theorem chg_3 {f : Feat} {o : OpS} (he : chgE f o = 0) (h : o.kd = 3) : chgF f o = { f with x := o.x, y := o.y, r := o.r } ∧ bkO f o = ⟨o.kd, o.id, feat0, f.x, f.y, f.r, 0, 0⟩ := ⟨by unfold chgF; rw [if_pos h], by unfold bkO; rw [if_neg (by omega), if_pos h]⟩
theorem chg_4 {f : Feat} {o : OpS} (he : chgE f o = 0) (h : o.kd = 4) : chgF f o = { f with d := o.d } ∧ bkO f o = ⟨o.kd, o.id, feat0, 0, 0, 0, f.d, 0⟩ := ⟨by unfold chgF; rw [if_neg (by omega), if_pos h], by unfold bkO; rw [if_neg (by omega), if_neg (by omega), if_pos h]⟩
theorem chg_5 {f : Feat} {o : OpS} (he : chgE f o = 0) (h : o.kd = 5) : chgF f o = { f with s := o.s } ∧ bkO f o = ⟨o.kd, o.id, feat0, 0, 0, 0, 0, f.s⟩ := ⟨by unfold chgF; rw [if_neg (by omega), if_neg (by omega), if_pos h], by unfold bkO; rw [if_neg (by omega), if_neg (by omega), if_neg (by omega)]⟩
theorem ppoly_p (f : Feat) (ho : f.Ok) : CallsP Tryz.prog 168 [.agg [.g (.int .i64 (f.id)), .g (.int .i64 (f.kd)), .g (.int .i64 (f.x)), .g (.int .i64 (f.y)), .g (.int .i64 (f.r)), .lst 2 f.n (ptI f.P), .g (.int .i64 (f.d)), .g (.int .i64 (f.s)), .lst 6 f.m (ptI f.S)]] (.t (.one (.g (.bool (decide (f.kd = 3 ∨ f.kd = 6)))))) := by
  refine CallsP_of Tryz.func168 rfl (by rw [Tryz.ntmps168]; simp) ?_
  simp only [Tryz.ntmps168, zM, PT.tv, argEnv, Nat.zero_add, Nat.reduceAdd]
  repeat' (first
 | ((with_reducible show AW _ _ _ _); first
 | (with_reducible first | refine aS (fun K hK => ?_) | refine aT ?_)
 | (first
 | (with_reducible first | refine aP 0 [0] ?_ | refine aP 1 [1] ?_)))
 | (((with_reducible refine And.intro ?_ ?_)); focus ((simp; done)))
 | (with_reducible refine retK_n ?_)
 | ((fail_if_success (with_reducible show AW _ _ _ _)); simp (maxSteps := 2000000) only [go_sem, reduceIte, reduceCtorEq, xA, xL, xD, xE, xM, xS, xB, Tryz.f168])
 | ((with_reducible refine hK _ ?_); clear hK K))
  all_goals ((try refine Bool.eq_iff_iff.2 ?_); (simp only [Bool.and_eq_true, Bool.or_eq_true, Bool.not_eq_true', decide_eq_true_eq, decide_eq_false_iff_not, bne_iff_ne, beq_iff_eq, ne_eq, ge_iff_le, gt_iff_lt, cond_eq_ite, iff_self, eq_self]; done))
theorem changed_3 (f : Feat) (o : OpS) (ho : f.Ok) (ho2 : o.f.Ok) (hk : o.kd = 3) : CallsP Tryz.prog 144 [.agg [.g (.int .i64 (f.id)), .g (.int .i64 (f.kd)), .g (.int .i64 (f.x)), .g (.int .i64 (f.y)), .g (.int .i64 (f.r)), .lst 2 f.n (ptI f.P), .g (.int .i64 (f.d)), .g (.int .i64 (f.s)), .lst 6 f.m (ptI f.S)], .agg [.g (.int .i64 (o.kd)), .g (.int .i64 (o.id)), .g (.int .i64 (o.f.id)), .g (.int .i64 (o.f.kd)), .g (.int .i64 (o.f.x)), .g (.int .i64 (o.f.y)), .g (.int .i64 (o.f.r)), .lst 2 o.f.n (ptI o.f.P), .g (.int .i64 (o.f.d)), .g (.int .i64 (o.f.s)), .lst 6 o.f.m (ptI o.f.S), .g (.int .i64 (o.x)), .g (.int .i64 (o.y)), .g (.int .i64 (o.r)), .g (.int .i64 (o.d)), .g (.int .i64 (o.s))]] (.tup [.agg [.g (.int .i64 ((chgX f o).id)), .g (.int .i64 ((chgX f o).kd)), .g (.int .i64 ((chgX f o).x)), .g (.int .i64 ((chgX f o).y)), .g (.int .i64 ((chgX f o).r)), .lst 2 (chgX f o).n (ptI (chgX f o).P), .g (.int .i64 ((chgX f o).d)), .g (.int .i64 ((chgX f o).s)), .lst 6 (chgX f o).m (ptI (chgX f o).S)], .agg [.g (.int .i64 ((bkO f o).kd)), .g (.int .i64 ((bkO f o).id)), .g (.int .i64 ((bkO f o).f.id)), .g (.int .i64 ((bkO f o).f.kd)), .g (.int .i64 ((bkO f o).f.x)), .g (.int .i64 ((bkO f o).f.y)), .g (.int .i64 ((bkO f o).f.r)), .lst 2 (bkO f o).f.n (ptI (bkO f o).f.P), .g (.int .i64 ((bkO f o).f.d)), .g (.int .i64 ((bkO f o).f.s)), .lst 6 (bkO f o).f.m (ptI (bkO f o).f.S), .g (.int .i64 ((bkO f o).x)), .g (.int .i64 ((bkO f o).y)), .g (.int .i64 ((bkO f o).r)), .g (.int .i64 ((bkO f o).d)), .g (.int .i64 ((bkO f o).s))], .one (.g (.int .i64 (chgE f o)))]) := by
  refine CallsP_of Tryz.func144 rfl (by rw [Tryz.ntmps144]; simp) ?_
  simp only [Tryz.ntmps144, zM, PT.tv, argEnv, Nat.zero_add, Nat.reduceAdd]
  repeat' (first
 | ((with_reducible show AW _ _ _ _); first
 | (with_reducible first | refine aS (fun K hK => ?_) | refine aI ?_ | refine aT ?_ | refine aC ?_ | refine aB ?_)
 | (first
 | (with_reducible first | refine aP 0 [0,1] ?_ | refine aP 1 [2,3,4,5] ?_ | refine aP 2 [2,3,4,5,7] ?_)
 | (with_reducible first | refine aP 4 [2,3,4,5,7,8] ?_ | refine aP 5 [2,3,4,5,7,8] ?_)
 | ((with_reducible refine aR (c := Code.region 6 _ true) [2,4,5,7] ?_); (with_reducible refine aD ?_ ?_ ?_ ?_); (focus kernel_rfl); (focus kernel_rfl); (focus kernel_rfl))
 | (with_reducible refine aP 7 [2,3,4,5,7] ?_)
 | ((with_reducible refine aR (c := Code.region 8 _ true) [2,3,4,5,7] ?_); (with_reducible refine aD ?_ ?_ ?_ ?_); (focus kernel_rfl); (focus kernel_rfl); (focus kernel_rfl))
 | ((with_reducible refine aR (c := Code.region 9 _ true) [2,3,4,5,7] ?_); (with_reducible refine aD ?_ ?_ ?_ ?_); (focus kernel_rfl); (focus kernel_rfl); (focus kernel_rfl))
 | ((with_reducible refine aR (c := Code.region 12 _ true) [2,4,5,7] ?_); (with_reducible refine aD ?_ ?_ ?_ ?_); (focus kernel_rfl); (focus kernel_rfl); (focus kernel_rfl))))
 | ((first | (with_reducible refine And.intro ?_ ?_) | (with_reducible refine Need.mk ?_)); focus (first | (intro _; (with_reducible assumption)) | (simp; omega)))
 | (with_reducible refine retK_n ?_)
 | ((with_reducible show condN _ _ _ _ _ _); first
 | ((with_reducible refine condN_t ?_ ?_) <;> (intro hc; (try simp only [zB, zC, reduceCtorEq] at hc); (try (exfalso; first | contradiction | omega)))))
 | ((with_reducible refine And.intro ?_ ?_); focus ((with_reducible show chkR _ _ _ = true); kernel_rfl))
 | ((with_reducible show callGN _ _ _ _ _ _ _ _ _ _); first
 | (refine callGN_q (k := 168) fnok_168 (fun hg => ppoly_p f ho) ?_ ?_))
 | ((fail_if_success (with_reducible show AW _ _ _ _)); simp (maxSteps := 2000000) only [go_sem, reduceIte, reduceCtorEq, xA, xL, xD, xE, xM, xS, xB, Tryz.f144])
 | ((with_reducible refine hK _ ?_); clear hK K))
  all_goals first
    | (have e := chg_e (f := f) (o := o) (by omega); rw [e.1, e.2.1, e.2.2]; repeat' (first | exact rfl | (with_reducible refine And.intro ?_ ?_) | (intro i q hi hq; exact IV.eqv_refl _)))
    | (have e0 := chg_0 (f := f) (o := o) (by omega); have e := chg_3 e0.1 (by omega); rw [e0.1, e0.2, e.1, e.2]; repeat' (first | exact rfl | (with_reducible refine And.intro ?_ ?_) | (intro i q hi hq; exact IV.eqv_refl _)))
    | (have e0 := chg_0 (f := f) (o := o) (by omega); have e := chg_4 e0.1 (by omega); rw [e0.1, e0.2, e.1, e.2]; repeat' (exact rfl))
    | (have e0 := chg_0 (f := f) (o := o) (by omega); have e := chg_5 e0.1 (by omega); rw [e0.1, e0.2, e.1, e.2]; repeat' (exact rfl))
    | skip
theorem changed_4 (f : Feat) (o : OpS) (ho : f.Ok) (ho2 : o.f.Ok) (hk : o.kd = 4) : CallsP Tryz.prog 144 [.agg [.g (.int .i64 (f.id)), .g (.int .i64 (f.kd)), .g (.int .i64 (f.x)), .g (.int .i64 (f.y)), .g (.int .i64 (f.r)), .lst 2 f.n (ptI f.P), .g (.int .i64 (f.d)), .g (.int .i64 (f.s)), .lst 6 f.m (ptI f.S)], .agg [.g (.int .i64 (o.kd)), .g (.int .i64 (o.id)), .g (.int .i64 (o.f.id)), .g (.int .i64 (o.f.kd)), .g (.int .i64 (o.f.x)), .g (.int .i64 (o.f.y)), .g (.int .i64 (o.f.r)), .lst 2 o.f.n (ptI o.f.P), .g (.int .i64 (o.f.d)), .g (.int .i64 (o.f.s)), .lst 6 o.f.m (ptI o.f.S), .g (.int .i64 (o.x)), .g (.int .i64 (o.y)), .g (.int .i64 (o.r)), .g (.int .i64 (o.d)), .g (.int .i64 (o.s))]] (.tup [.agg [.g (.int .i64 ((chgX f o).id)), .g (.int .i64 ((chgX f o).kd)), .g (.int .i64 ((chgX f o).x)), .g (.int .i64 ((chgX f o).y)), .g (.int .i64 ((chgX f o).r)), .lst 2 (chgX f o).n (ptI (chgX f o).P), .g (.int .i64 ((chgX f o).d)), .g (.int .i64 ((chgX f o).s)), .lst 6 (chgX f o).m (ptI (chgX f o).S)], .agg [.g (.int .i64 ((bkO f o).kd)), .g (.int .i64 ((bkO f o).id)), .g (.int .i64 ((bkO f o).f.id)), .g (.int .i64 ((bkO f o).f.kd)), .g (.int .i64 ((bkO f o).f.x)), .g (.int .i64 ((bkO f o).f.y)), .g (.int .i64 ((bkO f o).f.r)), .lst 2 (bkO f o).f.n (ptI (bkO f o).f.P), .g (.int .i64 ((bkO f o).f.d)), .g (.int .i64 ((bkO f o).f.s)), .lst 6 (bkO f o).f.m (ptI (bkO f o).f.S), .g (.int .i64 ((bkO f o).x)), .g (.int .i64 ((bkO f o).y)), .g (.int .i64 ((bkO f o).r)), .g (.int .i64 ((bkO f o).d)), .g (.int .i64 ((bkO f o).s))], .one (.g (.int .i64 (chgE f o)))]) := by
  refine CallsP_of Tryz.func144 rfl (by rw [Tryz.ntmps144]; simp) ?_
  simp only [Tryz.ntmps144, zM, PT.tv, argEnv, Nat.zero_add, Nat.reduceAdd]
  repeat' (first
 | ((with_reducible show AW _ _ _ _); first
 | (with_reducible first | refine aS (fun K hK => ?_) | refine aT ?_ | refine aC ?_ | refine aB ?_)
 | (first
 | (with_reducible first | refine aP 0 [0,1] ?_ | refine aP 1 [2,3,4,5] ?_ | refine aP 2 [2,3,4,5,7] ?_)
 | (with_reducible first | refine aP 4 [2,3,4,5,7,8] ?_ | refine aP 5 [2,3,4,5,7,8] ?_)
 | ((with_reducible refine aR (c := Code.region 6 _ true) [2,4,5,7] ?_); (with_reducible refine aD ?_ ?_ ?_ ?_); (focus kernel_rfl); (focus kernel_rfl); (focus kernel_rfl))
 | (with_reducible refine aP 7 [2,3,4,5,7] ?_)
 | (with_reducible refine aP 10 [2,3,4,5,7] ?_)
 | ((with_reducible refine aR (c := Code.region 11 _ true) [2,3,4,5,7] ?_); (with_reducible refine aD ?_ ?_ ?_ ?_); (focus kernel_rfl); (focus kernel_rfl); (focus kernel_rfl))
 | ((with_reducible refine aR (c := Code.region 12 _ true) [2,4,5,7] ?_); (with_reducible refine aD ?_ ?_ ?_ ?_); (focus kernel_rfl); (focus kernel_rfl); (focus kernel_rfl))))
 | ((first | (with_reducible refine And.intro ?_ ?_) | (with_reducible refine Need.mk ?_)); focus (first | (intro _; (with_reducible assumption)) | (simp; omega)))
 | (with_reducible refine retK_n ?_)
 | ((with_reducible show condN _ _ _ _ _ _); first
 | ((with_reducible refine condN_t ?_ ?_) <;> (intro hc; (try simp only [zB, zC, reduceCtorEq] at hc); (try (exfalso; first | contradiction | omega)))))
 | ((with_reducible refine And.intro ?_ ?_); focus ((with_reducible show chkR _ _ _ = true); kernel_rfl))
 | ((with_reducible show callGN _ _ _ _ _ _ _ _ _ _); first
 | (refine callGN_q (k := 168) fnok_168 (fun hg => ppoly_p f ho) ?_ ?_))
 | ((fail_if_success (with_reducible show AW _ _ _ _)); simp (maxSteps := 2000000) only [go_sem, reduceIte, reduceCtorEq, xA, xL, xD, xE, xM, xS, xB, Tryz.f144])
 | ((with_reducible refine hK _ ?_); clear hK K))
  all_goals first
    | (have e := chg_e (f := f) (o := o) (by omega); rw [e.1, e.2.1, e.2.2]; repeat' (first | exact rfl | (with_reducible refine And.intro ?_ ?_) | (intro i q hi hq; exact IV.eqv_refl _)))
    | (have e0 := chg_0 (f := f) (o := o) (by omega); have e := chg_3 e0.1 (by omega); rw [e0.1, e0.2, e.1, e.2]; repeat' (exact rfl))
    | (have e0 := chg_0 (f := f) (o := o) (by omega); have e := chg_4 e0.1 (by omega); rw [e0.1, e0.2, e.1, e.2]; repeat' (first | exact rfl | (with_reducible refine And.intro ?_ ?_) | (intro i q hi hq; exact IV.eqv_refl _)))
    | (have e0 := chg_0 (f := f) (o := o) (by omega); have e := chg_5 e0.1 (by omega); rw [e0.1, e0.2, e.1, e.2]; repeat' (exact rfl))
    | skip
theorem changed_5 (f : Feat) (o : OpS) (ho : f.Ok) (ho2 : o.f.Ok) (hk : o.kd = 5) : CallsP Tryz.prog 144 [.agg [.g (.int .i64 (f.id)), .g (.int .i64 (f.kd)), .g (.int .i64 (f.x)), .g (.int .i64 (f.y)), .g (.int .i64 (f.r)), .lst 2 f.n (ptI f.P), .g (.int .i64 (f.d)), .g (.int .i64 (f.s)), .lst 6 f.m (ptI f.S)], .agg [.g (.int .i64 (o.kd)), .g (.int .i64 (o.id)), .g (.int .i64 (o.f.id)), .g (.int .i64 (o.f.kd)), .g (.int .i64 (o.f.x)), .g (.int .i64 (o.f.y)), .g (.int .i64 (o.f.r)), .lst 2 o.f.n (ptI o.f.P), .g (.int .i64 (o.f.d)), .g (.int .i64 (o.f.s)), .lst 6 o.f.m (ptI o.f.S), .g (.int .i64 (o.x)), .g (.int .i64 (o.y)), .g (.int .i64 (o.r)), .g (.int .i64 (o.d)), .g (.int .i64 (o.s))]] (.tup [.agg [.g (.int .i64 ((chgX f o).id)), .g (.int .i64 ((chgX f o).kd)), .g (.int .i64 ((chgX f o).x)), .g (.int .i64 ((chgX f o).y)), .g (.int .i64 ((chgX f o).r)), .lst 2 (chgX f o).n (ptI (chgX f o).P), .g (.int .i64 ((chgX f o).d)), .g (.int .i64 ((chgX f o).s)), .lst 6 (chgX f o).m (ptI (chgX f o).S)], .agg [.g (.int .i64 ((bkO f o).kd)), .g (.int .i64 ((bkO f o).id)), .g (.int .i64 ((bkO f o).f.id)), .g (.int .i64 ((bkO f o).f.kd)), .g (.int .i64 ((bkO f o).f.x)), .g (.int .i64 ((bkO f o).f.y)), .g (.int .i64 ((bkO f o).f.r)), .lst 2 (bkO f o).f.n (ptI (bkO f o).f.P), .g (.int .i64 ((bkO f o).f.d)), .g (.int .i64 ((bkO f o).f.s)), .lst 6 (bkO f o).f.m (ptI (bkO f o).f.S), .g (.int .i64 ((bkO f o).x)), .g (.int .i64 ((bkO f o).y)), .g (.int .i64 ((bkO f o).r)), .g (.int .i64 ((bkO f o).d)), .g (.int .i64 ((bkO f o).s))], .one (.g (.int .i64 (chgE f o)))]) := by
  refine CallsP_of Tryz.func144 rfl (by rw [Tryz.ntmps144]; simp) ?_
  simp only [Tryz.ntmps144, zM, PT.tv, argEnv, Nat.zero_add, Nat.reduceAdd]
  repeat' (first
 | ((with_reducible show AW _ _ _ _); first
 | (with_reducible first | refine aS (fun K hK => ?_) | refine aT ?_ | refine aC ?_ | refine aB ?_)
 | (first
 | (with_reducible first | refine aP 0 [0,1] ?_ | refine aP 1 [2,3,4,5] ?_ | refine aP 2 [2,3,4,5,7] ?_)
 | ((with_reducible refine aR (c := Code.region 3 _ true) [2,3,4,5,7] ?_); (with_reducible refine aD ?_ ?_ ?_ ?_); (focus kernel_rfl); (focus kernel_rfl); (focus kernel_rfl))
 | (with_reducible first | refine aP 4 [2,3,4,5,7,8] ?_ | refine aP 5 [2,3,4,5,7,8] ?_)
 | (with_reducible refine aP 7 [2,3,4,5,7] ?_)
 | (with_reducible refine aP 10 [2,3,4,5,7] ?_)
 | ((with_reducible refine aR (c := Code.region 12 _ true) [2,4,5,7] ?_); (with_reducible refine aD ?_ ?_ ?_ ?_); (focus kernel_rfl); (focus kernel_rfl); (focus kernel_rfl))))
 | ((first | (with_reducible refine And.intro ?_ ?_) | (with_reducible refine Need.mk ?_)); focus (first | (intro _; (with_reducible assumption)) | (simp; omega)))
 | (with_reducible refine retK_n ?_)
 | ((with_reducible show condN _ _ _ _ _ _); first
 | ((with_reducible refine condN_t ?_ ?_) <;> (intro hc; (try simp only [zB, zC, reduceCtorEq] at hc); (try (exfalso; omega)))))
 | ((with_reducible refine And.intro ?_ ?_); focus ((with_reducible show chkR _ _ _ = true); kernel_rfl))
 | ((with_reducible show callGN _ _ _ _ _ _ _ _ _ _); first
 | (refine callGN_q (k := 168) fnok_168 (fun hg => ppoly_p f ho) ?_ ?_))
 | ((fail_if_success (with_reducible show AW _ _ _ _)); simp (maxSteps := 2000000) only [go_sem, reduceIte, reduceCtorEq, xA, xL, xD, xE, xM, xS, xB, Tryz.f144])
 | ((with_reducible refine hK _ ?_); clear hK K))
  all_goals first
    | (have e := chg_e (f := f) (o := o) (by omega); rw [e.1, e.2.1, e.2.2]; repeat' (exact rfl))
    | (have e0 := chg_0 (f := f) (o := o) (by omega); have e := chg_3 e0.1 (by omega); rw [e0.1, e0.2, e.1, e.2]; repeat' (exact rfl))
    | (have e0 := chg_0 (f := f) (o := o) (by omega); have e := chg_4 e0.1 (by omega); rw [e0.1, e0.2, e.1, e.2]; repeat' (exact rfl))
    | (have e0 := chg_0 (f := f) (o := o) (by omega); have e := chg_5 e0.1 (by omega); rw [e0.1, e0.2, e.1, e.2]; repeat' (first | exact rfl | (with_reducible refine And.intro ?_ ?_) | (intro i q hi hq; exact IV.eqv_refl _)))
    | skip
theorem pv_p (o : OpS) (ho : o.f.Ok) : CallsP Tryz.prog 98 [.agg [.g (.int .i64 (o.kd)), .g (.int .i64 (o.id)), .g (.int .i64 (o.f.id)), .g (.int .i64 (o.f.kd)), .g (.int .i64 (o.f.x)), .g (.int .i64 (o.f.y)), .g (.int .i64 (o.f.r)), .lst 2 o.f.n (ptI o.f.P), .g (.int .i64 (o.f.d)), .g (.int .i64 (o.f.s)), .lst 6 o.f.m (ptI o.f.S), .g (.int .i64 (o.x)), .g (.int .i64 (o.y)), .g (.int .i64 (o.r)), .g (.int .i64 (o.d)), .g (.int .i64 (o.s))]] (.t (.one (.g (.bool (opB o))))) := by
  refine CallsP_of Tryz.func98 rfl (by rw [Tryz.ntmps98]; simp) ?_
  simp only [Tryz.ntmps98, zM, PT.tv, argEnv, Nat.zero_add, Nat.reduceAdd]
  repeat' (first
 | ((with_reducible show AW _ _ _ _); first
 | (with_reducible first | refine aS (fun K hK => ?_) | refine aT ?_)
 | (first
 | (with_reducible first | refine aP 0 [0] ?_ | refine aP 1 [1] ?_)))
 | (((with_reducible refine Need.mk ?_)); focus (exact True.intro))
 | (with_reducible refine retK_n ?_)
 | ((with_reducible show callN _ _ _ _ _ _ _ _ _ _); first
 | (refine callN_q (k := 126) fnok_126 (Op_p _ ho) ?_ ?_))
 | ((fail_if_success (with_reducible show AW _ _ _ _)); simp (maxSteps := 2000000) only [go_sem, reduceIte, reduceCtorEq, xA, xL, xD, xE, xM, xS, xB, Tryz.f98])
 | ((with_reducible refine hK _ ?_); clear hK K))
theorem pbad_p (o : OpS) (ho : o.f.Ok) : CallsP Tryz.prog 116 [.agg [.g (.int .i64 (o.kd)), .g (.int .i64 (o.id)), .g (.int .i64 (o.f.id)), .g (.int .i64 (o.f.kd)), .g (.int .i64 (o.f.x)), .g (.int .i64 (o.f.y)), .g (.int .i64 (o.f.r)), .lst 2 o.f.n (ptI o.f.P), .g (.int .i64 (o.f.d)), .g (.int .i64 (o.f.s)), .lst 6 o.f.m (ptI o.f.S), .g (.int .i64 (o.x)), .g (.int .i64 (o.y)), .g (.int .i64 (o.r)), .g (.int .i64 (o.d)), .g (.int .i64 (o.s))]] (.t (.one (.g (.bool (!opB o))))) := by
  refine CallsP_of Tryz.func116 rfl (by rw [Tryz.ntmps116]; simp) ?_
  simp only [Tryz.ntmps116, zM, PT.tv, argEnv, Nat.zero_add, Nat.reduceAdd]
  repeat' (first
 | ((with_reducible show AW _ _ _ _); first
 | (with_reducible first | refine aS (fun K hK => ?_) | refine aT ?_)
 | (first
 | (with_reducible first | refine aP 0 [0] ?_ | refine aP 1 [1] ?_)))
 | (((with_reducible refine Need.mk ?_)); focus (exact True.intro))
 | (with_reducible refine retK_n ?_)
 | ((with_reducible show callN _ _ _ _ _ _ _ _ _ _); first
 | (refine callN_q (k := 98) fnok_98 (pv_p _ ho) ?_ ?_))
 | ((fail_if_success (with_reducible show AW _ _ _ _)); simp (maxSteps := 2000000) only [go_sem, reduceIte, reduceCtorEq, xA, xL, xD, xE, xM, xS, xB, Tryz.f116])
 | ((with_reducible refine hK _ ?_); clear hK K))
theorem callGK_u0 {P : Program} {gs : List (Option Nat)} {d : Option Tmp} {op : UnOp} {t : TypeId} {x : Operand} {ty : TypeId} {pos : String} {aft : Array Edge} {g : Option (Nat × Bool)} {os : List Oper} {s : AS} {K : AS → Prop} (h : arun P gs os (s.put d .any) K) :
    callGK P gs false ⟨d, .unOp op t x, ty, pos, aft, g⟩ os s K := by
  refine Or.inr ?_
  exact ⟨fun h => (by cases h), fun _ => h⟩
theorem pvalid_t (k : Nat) (o : Nat → OpS) (hk : k ≤ 9223372036854775807) (ho : ∀ i, i < k → (o i).f.Ok) (hd : decide ((k : Int) ≤ 100) = true) : CallsP Tryz.prog 90 [.one (.lst 16 k (oprF o))] (.t (.one (.g (.bool (opsB k o))))) := by
  have hd2 : k ≤ 100 := (by have := of_decide_eq_true hd; omega)
  refine CallsP_of Tryz.func90 rfl (by rw [Tryz.ntmps90]; simp) ?_
  simp only [Tryz.ntmps90, zM, PT.tv, argEnv, Nat.zero_add, Nat.reduceAdd]
  repeat' (first
 | ((with_reducible show AW _ _ _ _); first
 | (with_reducible first | refine aS (fun K hK => ?_) | refine aI ?_ | refine aX ?_ | refine aT ?_ | refine aC ?_ | refine aB ?_)
 | (first
 | (with_reducible first | refine aP 0 [0,1] ?_ | refine aP (ops := #[⟨some 3, _, _, _, _, _⟩, _, _, _, _, _, _, _, _]) 1 [0] ?_ | refine aP (ops := #[⟨some 5, _, _, _, _, _⟩, _, _, _, _]) 1 [0,1] ?_ | refine aP (ops := #[⟨some 6, _, _, _, _, _⟩, _, _]) 1 [0,1] ?_ | refine aP 2 [0,1,7,8] ?_ | refine aP 3 [0,1,7,8] ?_ | refine aP 4 [0,1,5,7,8] ?_ | refine aP 5 [5] ?_ | refine aP 6 [0,1,7,8] ?_ | refine aP 7 [] ?_))
 | ((with_reducible show AW _ (Code.loop _) _ _); first
 | ((with_reducible refine aL (c := (Code.seq (Code.region 2 _ _) _)) (ι := Nat) [0,1,7] (fun j => [(8, iA .i64 (j : Int))]) (fun j => []) (fun j => j ≤ k ∧ (∀ j', j' < j → opB (o j') = true)) (fun j => k - j) 0 ?lg2 ?l12 ?l22 ?li2 ?lr2); (case' lg2 => rintro j _); (case' li2 => try (exact ⟨Nat.zero_le _, fun i hi => absurd hi (Nat.not_lt_zero _)⟩)); (case' lr2 => rintro j ⟨hj, haj⟩ KR hR2; simp only [keepE, hupd, hset, lk, if_true, if_false, xE, reduceIte, zN, hd]))))
 | ((first | (with_reducible refine And.intro ?_ ?_) | (with_reducible refine Need.mk ?_)); focus (first | exact True.intro | omega))
 | (with_reducible refine retK_n ?_)
 | ((with_reducible show condN _ _ _ _ _ _); first
 | ((with_reducible refine condN_t ?_ ?_) <;> (intro hc; (try simp only [zB, zC, reduceCtorEq] at hc); (try (exfalso; contradiction)))))
 | ((with_reducible show callN _ _ _ _ _ _ _ _ _ _); first
 | (refine callN_q (k := 116) fnok_116 (pbad_p _ (ho _ (by omega))) ?_ ?_)
 | ((refine callN_i (k := 96) Tryz.func96 rfl fnok_96 (by rw [Tryz.ntmps96]; simp) ?_ ?_ (fun K hK => ?_)); (focus (exact True.intro)); (focus ((simp [lsF]; done))); simp only [Tryz.ntmps96, List.map_cons, List.map_nil, List.nil_append, List.cons_append, List.append_nil, LV.tv, argEnv, Nat.zero_add, Nat.reduceAdd])
 | ((refine callN_i (k := 101) Tryz.func101 rfl fnok_101 (by rw [Tryz.ntmps101]; simp) ?_ ?_ (fun K hK => ?_)); (focus (exact True.intro)); (focus ((simp [lsF]; done))); simp only [Tryz.ntmps101, List.map_cons, List.map_nil, List.nil_append, List.cons_append, List.append_nil, LV.tv, argEnv, Nat.zero_add, Nat.reduceAdd]))
 | ((with_reducible show callGN _ _ _ _ _ _ _ _ _ _); ((refine callGN_sq (k := 96) ?_ ?_) <;> (intro hc; (try simp only [zB, zC, reduceCtorEq] at hc); (try (exfalso; contradiction)))))
 | ((with_reducible refine hR2 _ (j + 1) ?_); (try clear hR2 KR))
 | ((with_reducible refine Told.mk ?_); simp only [go_sem, reduceIte, reduceCtorEq, xA, xL, xD, xE, xM, xS, xB, hd] <;> ((((try simp (disch := omega) only [seaWrap, Int.natCast_add, Int.cast_ofNat_Int, and_true, true_and, and_self]); (repeat' (first | omega | (with_reducible refine And.intro ?_ ?_) | (exact all_succ (by assumption) (by assumption)) )); done))))
 | ((fail_if_success (with_reducible show AW _ _ _ _)); simp (maxSteps := 2000000) only [go_sem, reduceIte, reduceCtorEq, xA, xL, xD, xE, xM, xS, xB, Tryz.f90, Tryz.f96, Tryz.f101, hd])
 | ((with_reducible refine hK _ ?_); clear hK K)
 | (with_reducible apply_assumption -exfalso only [*]))
  all_goals first
    | (refine Eq.trans ?_ (decide_eq_false (fun g => by have := g.2 j (by omega); simp_all)).symm; have h0 : (j : Int) ≥ 0 := (by omega); simp [h0]; done)
    | (refine Eq.trans ?_ (decide_eq_true ⟨hd2, fun i hi => haj i (by omega)⟩).symm; simp; done)
    | skip
theorem pvalid_f (k : Nat) (o : Nat → OpS) (hk : k ≤ 9223372036854775807) (ho : ∀ i, i < k → (o i).f.Ok) (hd : decide ((k : Int) ≤ 100) = false) : CallsP Tryz.prog 90 [.one (.lst 16 k (oprF o))] (.t (.one (.g (.bool (opsB k o))))) := by
  refine CallsP_of Tryz.func90 rfl (by rw [Tryz.ntmps90]; simp) ?_
  simp only [Tryz.ntmps90, zM, PT.tv, argEnv, Nat.zero_add, Nat.reduceAdd]
  repeat' (first
 | (refine callGK_u0 ?_)
 | ((with_reducible show AW _ _ _ _); first
 | (with_reducible first | refine aS (fun K hK => ?_) | refine aT ?_)
 | (first
 | (with_reducible first | refine aP 0 [0] ?_ | refine aP 1 [0] ?_)))
 | (with_reducible refine retK_n ?_)
 | ((with_reducible show callGN _ _ _ _ _ _ _ _ _ _); first
 | ((refine callGN_sq (k := 96) ?_ ?_) <;> (intro hc; (try simp only [zB, zC, reduceCtorEq] at hc); (try (exfalso; contradiction)))))
 | ((fail_if_success (with_reducible show AW _ _ _ _)); simp (maxSteps := 2000000) only [go_sem, reduceIte, reduceCtorEq, xA, xL, xD, xE, xM, xS, xB, Tryz.f90, hd])
 | ((with_reducible refine hK _ ?_); clear hK K))
  all_goals first | exact (decide_eq_false fun g => by have := of_decide_eq_false hd; omega).symm | skip
theorem pvalid_p (k : Nat) (o : Nat → OpS) (hk : k ≤ 9223372036854775807) (ho : ∀ i, i < k → (o i).f.Ok) : CallsP Tryz.prog 90 [.one (.lst 16 k (oprF o))] (.t (.one (.g (.bool (opsB k o))))) := by
  cases hd : decide ((k : Int) ≤ 100) with
  | true => exact pvalid_t k o hk ho hd
  | false => exact pvalid_f k o hk ho hd
end Go.Proofs.YtmnejmpjmniiiaaGreatDoor
namespace Go.Proofs
open Go.Shelf
def Tryz.lays189_ren : Go.Shelf.Ren := ⟨fun | 189 => 121 | 125 => 147 | 257 => 146 | 128 => 178 | 129 => 179 | 294 => 169 | 295 => 170 | 296 => 171 | 297 => 172 | 298 => 173 | 299 => 174 | 216 => 175 | 300 => 176 | 301 => 177 | 328 => 195 | 329 => 196 | 330 => 197 | 331 => 198 | 332 => 199 | 215 => 114 | 343 => 209 | n => n, fun | 28 => 27 | 3 => 3 | 46 => 88 | 0 => 0 | 51 => 153 | 53 => 155 | 4 => 4 | 183 => 192 | 182 => 191 | 131 => 130 | 5 => 5 | 9 => 9 | 218 => 208 | 222 => 212 | 228 => 216 | 229 => 217 | n => n, fun | n => n⟩
theorem Tryz.lays189 : Go.Proofs.Lays.n189 Tryz.prog Tryz.lays189_ren := {
  mixed := by kernel_rfl
  f125 := Tryz.func147.trans (congrArg some (by kernel_rfl))
  f128 := Tryz.func178.trans (congrArg some (by kernel_rfl))
  f129 := Tryz.func179.trans (congrArg some (by kernel_rfl))
  f189 := Tryz.func121.trans (congrArg some (by kernel_rfl))
  f215 := Tryz.func114.trans (congrArg some (by kernel_rfl))
  f216 := Tryz.func175.trans (congrArg some (by kernel_rfl))
  f257 := Tryz.func146.trans (congrArg some (by kernel_rfl))
  f294 := Tryz.func169.trans (congrArg some (by kernel_rfl))
  f295 := Tryz.func170.trans (congrArg some (by kernel_rfl))
  f296 := Tryz.func171.trans (congrArg some (by kernel_rfl))
  f297 := Tryz.func172.trans (congrArg some (by kernel_rfl))
  f298 := Tryz.func173.trans (congrArg some (by kernel_rfl))
  f299 := Tryz.func174.trans (congrArg some (by kernel_rfl))
  f300 := Tryz.func176.trans (congrArg some (by kernel_rfl))
  f301 := Tryz.func177.trans (congrArg some (by kernel_rfl))
  f328 := Tryz.func195.trans (congrArg some (by kernel_rfl))
  f329 := Tryz.func196.trans (congrArg some (by kernel_rfl))
  f330 := Tryz.func197.trans (congrArg some (by kernel_rfl))
  f331 := Tryz.func198.trans (congrArg some (by kernel_rfl))
  f332 := Tryz.func199.trans (congrArg some (by kernel_rfl))
  f343 := Tryz.func209.trans (congrArg some (by kernel_rfl))
  t0 := Tryz.underlying0
  a0 := Tryz.isAgg0
  z0 := Tryz.sizeOf0
  v0 := Tryz.zeroValue0
  t3 := Tryz.underlying3
  a3 := Tryz.isAgg3
  z3 := Tryz.sizeOf3
  v3 := Tryz.zeroValue3
  t4 := Tryz.underlying4
  a4 := Tryz.isAgg4
  z4 := Tryz.sizeOf4
  v4 := Tryz.zeroValue4
  t5 := Tryz.underlying5
  a5 := Tryz.isAgg5
  z5 := Tryz.sizeOf5
  v5 := Tryz.zeroValue5
  t9 := Tryz.underlying9
  a9 := Tryz.isAgg9
  z9 := Tryz.sizeOf9
  v9 := Tryz.zeroValue9
  t28 := Tryz.underlying27
  a28 := Tryz.isAgg27
  z28 := Tryz.sizeOf27
  v28 := Tryz.zeroValue27
  t46 := Tryz.underlying88
  a46 := Tryz.isAgg88
  z46 := Tryz.sizeOf88
  v46 := Tryz.zeroValue88
  t51 := Tryz.underlying153
  a51 := Tryz.isAgg153
  z51 := Tryz.sizeOf153
  v51 := Tryz.zeroValue153
  t53 := Tryz.underlying155
  a53 := Tryz.isAgg155
  z53 := Tryz.sizeOf155
  v53 := Tryz.zeroValue155
  t131 := Tryz.underlying130
  a131 := Tryz.isAgg130
  z131 := Tryz.sizeOf130
  v131 := Tryz.zeroValue130
  t182 := Tryz.underlying191
  a182 := Tryz.isAgg191
  z182 := Tryz.sizeOf191
  v182 := Tryz.zeroValue191
  t183 := Tryz.underlying192
  a183 := Tryz.isAgg192
  z183 := Tryz.sizeOf192
  v183 := Tryz.zeroValue192
  t218 := Tryz.underlying208
  a218 := Tryz.isAgg208
  z218 := Tryz.sizeOf208
  v218 := Tryz.zeroValue208
  t222 := Tryz.underlying212
  a222 := Tryz.isAgg212
  z222 := Tryz.sizeOf212
  v222 := Tryz.zeroValue212
  t228 := Tryz.underlying216
  a228 := Tryz.isAgg216
  z228 := Tryz.sizeOf216
  v228 := Tryz.zeroValue216
  t229 := Tryz.underlying217
  a229 := Tryz.isAgg217
  z229 := Tryz.sizeOf217
  v229 := Tryz.zeroValue217 }
open Go.Sort Go.RowKit in
theorem Tryz.slices_Sort_int (blk off cap : Nat) (zs : List Int) (w : World) (hH : Holds (Value.int .i64) w blk off zs.toArray) (hblk : blk < w.heap.size) (hsz : zs.length < 4611686018427387904) :
    Calls Tryz.prog 121 #[.slice (some ⟨blk, off, none⟩) zs.length cap] w fun e w' =>
      e = .returned (.tuple #[]) ∧ ∃ n os, w' = grow (putRow (Value.int .i64) (Sort.ahead w n) blk off (zs.mergeSort fun x y => decide (x ≤ y)).toArray) os := Any.slices_Sort_int Tryz.lays189 blk off cap zs w hH hblk hsz
open Go.RowKit Go.Sort in
theorem Tryz.slices_Sort_int_none (p : Option Addr) (cap : Nat) (w : World) :
    Calls Tryz.prog 121 #[.slice p 0 cap] w fun e w' => e = .returned (.tuple #[]) ∧ w' = w := Any.slices_Sort_int_none Tryz.lays189 p cap w
end Go.Proofs
namespace Go.Proofs.YtmnejmpjmniiiaaGreatDoor
open Go.RowKit Go.Sea Go.Sort
def rowI (zs : List Int) : List CV := zs.map fun z => .iv (.g (.int .i64 z))
theorem rowI_len (zs : List Int) : (rowI zs).length = zs.length := by simp [rowI]
theorem rowI_iv (zs : List Int) : ∀ c, c ∈ rowI zs → isIv c := by
  intro c hc
  simp only [rowI, List.mem_map] at hc
  obtain ⟨z, _, rfl⟩ := hc
  trivial
theorem rowI_get (zs : List Int) (k : Nat) (h : k < zs.length) : (rowI zs).getD k .any = .iv (.g (.int .i64 (zs.getD k 0))) := by
  simp [rowI, List.getD, h]
section
variable {w0 : World} {Z0 : Fr} {J : Nat → Option Nat} {Z : Nat → Prop} {s : AS} {a : Act} {w : World}
theorem rel_ahead (R : Rel w0 Z0 J Z s a w) : ∀ n, Rel w0 Z0 J Z s a (Go.Sort.ahead w n)
  | 0 => R
  | n + 1 => by
    have := (rel_ahead R n).drew
    exact this
theorem below_grow (w : World) (os : Array Obj) : Below w.heap.size w (grow w os) := by
  refine ⟨rfl, rfl, rfl, by simp [grow], fun k hk => ?_⟩
  simp only [grow]
  rw [Array.getElem?_append_left hk]
theorem row_read (R : Rel w0 Z0 J Z s a w) {i b : Nat} {zs : List Int} {c : Array Value} {e : TypeId} (hj : J i = some b) (hb : w.heap[b]? = some (.cells c e (0, 0))) (hz : zs ≠ []) (h : hget s.heap i = some (rowI zs)) :
    zs.length ≤ c.size ∧ ∀ j, j < zs.length → c[j]? = some (.int .i64 (zs.getD j 0)) := by
  obtain ⟨c1, e1, g2, g3⟩ := R.cells h (by cases zs <;> simp_all [rowI]) hj ⟨_, _, hb⟩
  rw [hb] at g2; cases g2
  have hl := g3.length
  have hl' : zs.length ≤ c.size := by
    simp only [List.length_take, rowI_len, Array.length_toList] at hl
    omega
  refine ⟨hl', fun j hjz => ?_⟩
  obtain ⟨u, hu, hr⟩ := g3.get (k := j) (y := .iv (.g (.int .i64 (zs.getD j 0)))) (by simp [rowI, List.getD, hjz])
  rw [List.getElem?_take, if_pos (by rw [rowI_len]; exact hjz), Array.getElem?_toList] at hu
  rw [hu]; cases hr; rfl
theorem row_holds {b : Nat} {zs : List Int} {c : Array Value} {e : TypeId} (hb : w.heap[b]? = some (.cells c e (0, 0))) (h : ∀ j, j < zs.length → c[j]? = some (.int .i64 (zs.getD j 0))) : Holds (Value.int .i64) w b 0 zs.toArray := by
  intro j hj
  have hj' : j < zs.length := by simpa using hj
  refine ⟨?_, ?_⟩
  · rw [cell_of_row w b _ c e _ hb, Nat.zero_add, h j hj']
    simp [List.getD, hj']
  · simp [World.frozen?, hb]
theorem row_put (R : Rel w0 Z0 J Z s a w) {i b : Nat} {zs ys : List Int} {c : Array Value} {e : TypeId} (hj : J i = some b) (hb : w.heap[b]? = some (.cells c e (0, 0))) (h : hget s.heap i = some (rowI zs)) (hl : ys.length = zs.length) (hc : zs.length ≤ c.size) :
    Rel w0 Z0 J Z { s with heap := hset s.heap i (rowI ys) } a (putRow (Value.int .i64) w b 0 ys.toArray) := by
  have hrow := setRow_heap w b c (putCells (Value.int .i64) 0 ys.toArray c) e (0, 0) hb
  have ew : putRow (Value.int .i64) w b 0 ys.toArray = w.setRow b (putCells (Value.int .i64) 0 ys.toArray c) := by
    unfold putRow mapBlock World.setRow
    congr 1
    apply Array.ext_getElem?
    intro k
    simp only [Array.getElem?_modify]
    by_cases hk : b = k
    · subst hk
      simp only [if_true]
      rw [hb]; rfl
    · simp [hk]
  rw [ew]
  refine R.set h hj hb (by simp [putCells]) (hget_hset_same _ _ _) (fun k hk => hget_hset_ne _ _ _ _ hk) ?_
  refine All2.of (by simp [putCells, rowI_len]; omega) fun k u y hu hy => ?_
  have hk : k < ys.length := by
    rw [List.getElem?_take] at hu
    split at hu
    · rename_i h; rwa [rowI_len] at h
    · cases hu
  rw [List.getElem?_take, if_pos (by rw [rowI_len]; exact hk), Array.getElem?_toList] at hu
  simp only [putCells, Array.getElem?_mapIdx] at hu
  rw [Array.getElem?_eq_getElem (by omega)] at hu
  simp [hk] at hu
  simp [rowI, hk] at hy
  subst hu; subst hy
  exact Rd.g _ rfl
end
theorem sort_len (zs : List Int) : (zs.mergeSort fun x y => decide (x ≤ y)).length = zs.length := by simp
theorem sort_t (zs : List Int) (hz : zs.length < 4611686018427387904) (i : Nat) : CallsT Tryz.prog 121 [.one (.slc i 0 zs.length 1)] i (rowI zs) (.tup []) (rowI (zs.mergeSort fun x y => decide (x ≤ y))) := by
  intro H hH w0 Z0 J Z s a w vs R hs hv
  subst hs
  obtain ⟨vs⟩ := vs
  match vs, hv with
  | [v], ⟨hv, _⟩ =>
    by_cases h0 : zs = []
    · subst h0
      have ev : ∃ p cap, v = .slice p 0 cap := by
        rcases hv with ⟨_, rfl⟩ | ⟨b, cap, c, e, rfl, _⟩ <;> exact ⟨_, _, rfl⟩
      obtain ⟨p, cap, rfl⟩ := ev
      refine (Tryz.slices_Sort_int_none p cap w).mono fun e w' ⟨he, hw⟩ => ?_
      subst hw
      refine ⟨_, J, Z, he, ?_, #[], rfl, trivial⟩
      have e1 : rowI (([] : List Int).mergeSort fun x y => decide (x ≤ y)) = rowI [] := by simp [rowI]
      rw [e1]
      exact R.same fun k => by
        by_cases hk : k = i
        · subst hk; rw [hget_hset_same]; exact hH.symm
        · exact hget_hset_ne _ _ _ _ hk
    · rcases hv with ⟨h, _⟩ | ⟨b, cap, c, e, rfl, hj, hc1, hc2, hb, hsz⟩
      · exact absurd (List.eq_nil_of_length_eq_zero h) h0
      · obtain ⟨k1, k2⟩ := row_read R hj hb h0 hH
        refine (Tryz.slices_Sort_int b 0 cap zs w (row_holds hb k2) (R.jlt i b hj).2.1 hz).mono fun e' w' ⟨he, n, os, hw⟩ => ?_
        subst hw
        have R1 := row_put (rel_ahead R n) (ys := zs.mergeSort fun x y => decide (x ≤ y)) hj hb hH (sort_len zs) k1
        exact ⟨_, J, _, he, (R1.call (below_grow _ os)).1, #[], rfl, trivial⟩
end Go.Proofs.YtmnejmpjmniiiaaGreatDoor
