/- Part 8 of 17: contracts of functions and plain laws for the root text. No condition. -/
import Derived.Test.YtcfechepbamhkaaGreatX01
import Derived.Test.YtcfechepbamhkaaGreatX02
import Derived.Test.YtcfechepbamhkaaGreatX03
import Derived.Test.YtcfechepbamhkaaGreatX04
import Derived.Test.YtcfechepbamhkaaGreatX05
import Derived.Test.YtcfechepbamhkaaGreatX06
import Derived.Test.YtcfechepbamhkaaGreatX07
import Derived.Shelf.Small.Bits
import Derived.Shelf.Small.Wraps
import Derived.Shelf.Strconv.Itoa0
import Derived.Shelf.Sort.Plain
import Derived.Shelf.Slices.Turned
import Derived.Shelf.Slices.Reverse
import Derived.Shelf.Slices.Equal
import Derived.Ground.Names2Prog
import Derived.Shelf.Slices.Clone
import Derived.Shelf.Slices.SearchI
import Derived.Shelf.Slices.Cells
import Derived.Shelf.Slices.In.SortNone
import Derived.Shelf.Slices.Empties
import Derived.Shelf.Slices.Empties2
import Derived.Ground.SlgnProg
import Derived.Shelf.SlicesE.Reverse
import Derived.Shelf.SlicesE.Clone
import Derived.Test.YtcfechepbamhkaaGreatProg
import Derived.Lib.RowBridge
set_option linter.unusedVariables false
set_option linter.unusedSimpArgs false
set_option maxRecDepth 100000
set_option maxHeartbeats 4000000
namespace Go.Proofs.YtcfechepbamhkaaGreat
open Go.RowKit Go.Sea
open Nat renaming reduceAdd -> xA, reduceLT -> xL, reduceLeDiff -> xD, reduceEqDiff -> xE, reduceMul -> xM, reduceSub -> xS, reduceBEq -> xB
theorem Bt : aM Tryz.prog 133 = true := by kernel_rfl
theorem HV : aM Tryz.prog 58 = true := by kernel_rfl
theorem KH : aM Tryz.prog 143 = true := by kernel_rfl
theorem Jg : aM Tryz.prog 145 = true := by kernel_rfl
theorem IB : aM Tryz.prog 108 = true := by kernel_rfl
theorem akv : fM Tryz.prog 64 = true := by kernel_rfl
theorem amD : fM Tryz.prog 66 = true := by kernel_rfl
theorem ae3 : dF Tryz.prog 66 0 = some 0 := by kernel_rfl
theorem ace : dF Tryz.prog 66 1 = some 1 := by kernel_rfl
theorem aej : dF Tryz.prog 66 2 = some 2 := by kernel_rfl
theorem aeN : dF Tryz.prog 66 3 = some 11 := by kernel_rfl
theorem acD : dF Tryz.prog 66 4 = some 13 := by kernel_rfl
theorem afi : dF Tryz.prog 66 5 = some 14 := by kernel_rfl
theorem aee : dF Tryz.prog 66 6 = some 15 := by kernel_rfl
theorem ac4 : dA Tryz.prog 66 0 = some (0, 1) := by kernel_rfl
theorem acP : dA Tryz.prog 66 1 = some (1, 1) := by kernel_rfl
theorem ak8 : lD Tryz.prog 64 = some (true, 9) := by kernel_rfl
theorem anV : lD Tryz.prog 66 = some (true, 16) := by kernel_rfl
theorem alZ : fO Tryz.prog 64 = some [.iv (.g (.int .i64 0)), .iv (.g (.int .i64 0)), .iv (.g (.int .i64 0)), .iv (.g (.int .i64 0)), .iv (.g (.int .i64 0)), .iv (.g (.slice none 0 0)), .iv (.g (.int .i64 0)), .iv (.g (.int .i64 0)), .iv (.g (.slice none 0 0))] := by kernel_rfl
theorem amb : fO Tryz.prog 66 = some [.iv (.g (.int .i64 0)), .iv (.g (.int .i64 0)), .iv (.g (.int .i64 0)), .iv (.g (.int .i64 0)), .iv (.g (.int .i64 0)), .iv (.g (.int .i64 0)), .iv (.g (.int .i64 0)), .iv (.g (.slice none 0 0)), .iv (.g (.int .i64 0)), .iv (.g (.int .i64 0)), .iv (.g (.slice none 0 0)), .iv (.g (.int .i64 0)), .iv (.g (.int .i64 0)), .iv (.g (.int .i64 0)), .iv (.g (.int .i64 0)), .iv (.g (.int .i64 0))] := by kernel_rfl
attribute [go_sem] Bt HV KH Jg IB akv amD ae3 ace aej aeN acD afi aee ac4 acP ak8 anV alZ amb
structure fG where
  kd : Int
  id : Int
  f : aW
  x : Int
  y : Int
  r : Int
  d : Int
  s : Int
def eG : aW := ⟨0, 0, 0, 0, 0, 0, fun _ _ => 0, 0, 0, 0, fun _ _ => 0⟩
def TS (k i : Int) : fG := ⟨k, i, eG, 0, 0, 0, 0, 0⟩
def fJ (o : fG) : fG := if o.kd = 1 then ⟨o.kd, o.id, eG, o.x, o.y, o.r, o.d, o.s⟩ else if o.kd = 3 then ⟨o.kd, o.id, o.f, 0, 0, 0, o.d, o.s⟩ else if o.kd = 4 then ⟨o.kd, o.id, o.f, o.x, o.y, o.r, 0, o.s⟩ else if o.kd = 5 then ⟨o.kd, o.id, o.f, o.x, o.y, o.r, o.d, 0⟩ else o
theorem qy : eG.Ok := ⟨by simp [eG], by simp [eG]⟩
theorem YF {o : fG} (h : o.f.Ok) : (fJ o).f.Ok := by
  unfold fJ; repeat' split
  all_goals first | exact qy | exact h
def zF (f : aW) : Prop := f.id = 0 /\ f.kd = 0 /\ f.x = 0 /\ f.y = 0 /\ f.r = 0 /\ f.d = 0 /\ f.s = 0 /\ f.n = 0 /\ f.m = 0
instance (f : aW) : Decidable (zF f) := by unfold zF; infer_instance
def opC (o : fG) (pt rm fe : Bool) : Prop :=
  (1 <= o.id /\ o.id <= 100000) /\ (o.kd = 1 /\ o.f.id = o.id /\ fe = true /\ o.x = 0 /\ o.y = 0 /\ o.r = 0 /\ o.d = 0 /\ o.s = 0 \/ zF o.f ∧
    (o.kd = 2 /\ o.x = 0 /\ o.y = 0 /\ o.r = 0 /\ o.d = 0 /\ o.s = 0 \/ o.kd = 3 /\ (0 <= o.r /\ o.r <= 100000) /\ pt = true /\ rm = true /\ o.d = 0 /\ o.s = 0 ∨
     o.kd = 4 /\ (0 <= o.d /\ o.d <= 100000) /\ o.x = 0 /\ o.y = 0 /\ o.r = 0 /\ o.s = 0 \/ o.kd = 5 /\ (0 <= o.s /\ o.s <= 999) /\ o.x = 0 /\ o.y = 0 /\ o.r = 0 /\ o.d = 0))
instance (o : fG) (pt rm fe : Bool) : Decidable (opC o pt rm fe) := by unfold opC; infer_instance
def yY (o : fG) : Bool := decide (opC o (gL o.x o.y) (rW o.x o.y o.r) (jw o.f))
def zH (a b : fG) : Bool := decide (a.kd = b.kd /\ a.id = b.id /\ a.x = b.x /\ a.y = b.y /\ a.r = b.r /\ a.d = b.d /\ a.s = b.s) && uM a.f b.f
theorem ahR {w n : Nat} {P Q : Nat -> Nat -> Int} : CK w n 0 P Q = true ↔ n = 0 := by
  unfold CK; rw [decide_eq_true_eq]
  exact ⟨fun h => h.1, fun h => ⟨h, fun i hi => by omega⟩⟩
theorem aj8 (f : aW) : uM f eG = true ↔ zF f := by
  unfold uM zF; simp only [Bool.and_eq_true, decide_eq_true_eq]; simp only [eG, ahR, and_assoc]
theorem yx (o : fG) : zH (fJ o) (TS o.kd o.id) = true ↔ ((o.kd = 1 \/ zF o.f) /\ (o.kd = 3 \/ (o.x = 0 /\ o.y = 0 /\ o.r = 0)) /\ (o.kd = 4 \/ o.d = 0) /\ (o.kd = 5 \/ o.s = 0)) := by
  have h0 : zF eG := ⟨rfl, rfl, rfl, rfl, rfl, rfl, rfl, rfl, rfl⟩
  unfold zH; simp only [Bool.and_eq_true, decide_eq_true_eq]; simp only [TS, aj8]
  unfold fJ
  by_cases h1 : o.kd = 1
  · simp [h1, h0, and_assoc]
  · by_cases h3 : o.kd = 3
    · simp [h3]
      generalize zF o.f = z at *; constructor <;> (intro h; simp_all)
    · by_cases h4 : o.kd = 4
      · simp [h4]
        generalize zF o.f = z at *; constructor <;> (intro h; simp_all)
      · by_cases h5 : o.kd = 5
        · simp [h5]
          generalize zF o.f = z at *; constructor <;> (intro h; simp_all)
        · simp [h1, h3, h4, h5]
          generalize zF o.f = z at *; constructor <;> (intro h; simp_all)
theorem aix {o : fG} (h : o.kd = 1) : fJ o = ⟨o.kd, o.id, eG, o.x, o.y, o.r, o.d, o.s⟩ := by unfold fJ; rw [if_pos h]
theorem ahi {o : fG} (h : o.kd = 3) : fJ o = ⟨o.kd, o.id, o.f, 0, 0, 0, o.d, o.s⟩ := by unfold fJ; rw [if_neg (by omega), if_pos h]
theorem aj0 {o : fG} (h : o.kd = 4) : fJ o = ⟨o.kd, o.id, o.f, o.x, o.y, o.r, 0, o.s⟩ := by unfold fJ; rw [if_neg (by omega), if_neg (by omega), if_pos h]
theorem aiI {o : fG} (h : o.kd = 5) : fJ o = ⟨o.kd, o.id, o.f, o.x, o.y, o.r, o.d, 0⟩ := by unfold fJ; rw [if_neg (by omega), if_neg (by omega), if_neg (by omega), if_pos h]
theorem ahh {o : fG} (h : o.kd ≠ 1 /\ o.kd ≠ 3 /\ o.kd ≠ 4 /\ o.kd ≠ 5) : fJ o = o := by unfold fJ; rw [if_neg h.1, if_neg h.2.1, if_neg h.2.2.1, if_neg h.2.2.2]
theorem kV (o : fG) : yY o = true ↔ opC o (gL o.x o.y) (rW o.x o.y o.r) (jw o.f) := decide_eq_true_iff
def idO (o : fG) : Prop := (1 <= o.id /\ o.id <= 100000) /\ zH (fJ o) (TS o.kd o.id) = true
theorem aom {o : fG} (h : (o.id < 1 \/ o.id > 100000) \/ zH (fJ o) (TS o.kd o.id) = false) : false = yY o := by
  refine Bool.eq_iff_iff.2 ?_
  rw [kV]
  refine ⟨fun g => (by cases g), fun g => ?_⟩
  exfalso
  obtain ⟨g1, g2⟩ := g
  have : zH (fJ o) (TS o.kd o.id) = true := by
    rw [yx]
    rcases g2 with g2 | ⟨gz, g2 | g2 | g2 | g2⟩
    · exact ⟨Or.inl g2.1, by omega, by omega, by omega⟩
    all_goals exact ⟨Or.inr gz, by omega, by omega, by omega⟩
  rcases h with h | h
  · omega
  · rw [this] at h; cases h
theorem aob {o : fG} (h : idO o) (hk : o.kd = 1) : (o.f.id == o.id && jw o.f) = yY o := by
  obtain ⟨h1, h2⟩ := h; rw [yx] at h2
  refine Bool.eq_iff_iff.2 ?_
  rw [kV]; unfold opC; simp only [Bool.and_eq_true, beq_iff_eq]
  constructor
  · rintro ⟨g1, g2⟩; exact ⟨h1, Or.inl ⟨hk, g1, g2, by omega, by omega, by omega, by omega, by omega⟩⟩
  · rintro ⟨_, g | ⟨_, g | g | g | g⟩⟩
    · exact ⟨g.2.1, g.2.2.1⟩
    all_goals omega
theorem ae8 {o : fG} (h2 : (o.kd = 1 \/ zF o.f) /\ (o.kd = 3 \/ (o.x = 0 /\ o.y = 0 /\ o.r = 0)) /\ (o.kd = 4 \/ o.d = 0) /\ (o.kd = 5 \/ o.s = 0)) (hk : o.kd ≠ 1) : zF o.f := h2.1.resolve_left hk
theorem anY {o : fG} (h : idO o) (hk : o.kd = 2) : true = yY o := by
  obtain ⟨h1, h2⟩ := h; rw [yx] at h2
  refine ((kV o).2 ⟨h1, Or.inr ⟨ae8 h2 (by omega), Or.inl (by omega)⟩⟩).symm
theorem aoO {o : fG} (h : idO o) (hk : o.kd = 3) : (decide (o.r >= 0) && decide (o.r <= 100000) && gL o.x o.y && rW o.x o.y o.r) = yY o := by
  obtain ⟨h1, h2⟩ := h; rw [yx] at h2
  refine Bool.eq_iff_iff.2 ?_
  rw [kV]; unfold opC; simp only [Bool.and_eq_true, decide_eq_true_eq]
  constructor
  · rintro ⟨⟨⟨g1, g2⟩, g3⟩, g4⟩; exact ⟨h1, Or.inr ⟨ae8 h2 (by omega), Or.inr (Or.inl ⟨hk, ⟨g1, g2⟩, g3, g4, by omega, by omega⟩)⟩⟩
  · rintro ⟨_, g | ⟨_, g | g | g | g⟩⟩
    · omega
    · omega
    · exact ⟨⟨⟨g.2.1.1, g.2.1.2⟩, g.2.2.1⟩, g.2.2.2.1⟩
    all_goals omega
theorem aoo {o : fG} (h : idO o) (hk : o.kd = 4) : (decide (o.d >= 0) && decide (o.d <= 100000)) = yY o := by
  obtain ⟨h1, h2⟩ := h; rw [yx] at h2
  refine Bool.eq_iff_iff.2 ?_
  rw [kV]; unfold opC; simp only [Bool.and_eq_true, decide_eq_true_eq]
  constructor
  · rintro ⟨g1, g2⟩; exact ⟨h1, Or.inr ⟨ae8 h2 (by omega), Or.inr (Or.inr (Or.inl ⟨hk, ⟨g1, g2⟩, by omega, by omega, by omega, by omega⟩))⟩⟩
  · rintro ⟨_, g | ⟨_, g | g | g | g⟩⟩ <;> omega
theorem an2 {o : fG} (h : idO o) (hk : o.kd = 5) : (decide (o.s >= 0) && decide (o.s <= 999)) = yY o := by
  obtain ⟨h1, h2⟩ := h; rw [yx] at h2
  refine Bool.eq_iff_iff.2 ?_
  rw [kV]; unfold opC; simp only [Bool.and_eq_true, decide_eq_true_eq]
  constructor
  · rintro ⟨g1, g2⟩; exact ⟨h1, Or.inr ⟨ae8 h2 (by omega), Or.inr (Or.inr (Or.inr ⟨hk, ⟨g1, g2⟩, by omega, by omega, by omega, by omega⟩))⟩⟩
  · rintro ⟨_, g | ⟨_, g | g | g | g⟩⟩ <;> omega
theorem aoE {o : fG} (hk : o.kd ≠ 1 /\ o.kd ≠ 2 /\ o.kd ≠ 3 /\ o.kd ≠ 4 /\ o.kd ≠ 5) : false = yY o := by
  refine Bool.eq_iff_iff.2 ?_
  rw [kV]; unfold opC
  refine ⟨fun g => (by cases g), ?_⟩
  rintro ⟨_, g | ⟨_, g | g | g | g⟩⟩ <;> omega
theorem ajo (o : fG) (ho : o.f.Ok) : aA Tryz.prog 143 [.agg [.g (.int .i64 (o.kd)), .g (.int .i64 (o.id)), .g (.int .i64 (o.f.id)), .g (.int .i64 (o.f.kd)), .g (.int .i64 (o.f.x)), .g (.int .i64 (o.f.y)), .g (.int .i64 (o.f.r)), .lst 2 o.f.n (eX o.f.P), .g (.int .i64 (o.f.d)), .g (.int .i64 (o.f.s)), .lst 6 o.f.m (eX o.f.S), .g (.int .i64 (o.x)), .g (.int .i64 (o.y)), .g (.int .i64 (o.r)), .g (.int .i64 (o.d)), .g (.int .i64 (o.s))]] (.t (.agg [.g (.int .i64 ((fJ o).kd)), .g (.int .i64 ((fJ o).id)), .g (.int .i64 ((fJ o).f.id)), .g (.int .i64 ((fJ o).f.kd)), .g (.int .i64 ((fJ o).f.x)), .g (.int .i64 ((fJ o).f.y)), .g (.int .i64 ((fJ o).f.r)), .lst 2 (fJ o).f.n (eX (fJ o).f.P), .g (.int .i64 ((fJ o).f.d)), .g (.int .i64 ((fJ o).f.s)), .lst 6 (fJ o).f.m (eX (fJ o).f.S), .g (.int .i64 ((fJ o).x)), .g (.int .i64 ((fJ o).y)), .g (.int .i64 ((fJ o).r)), .g (.int .i64 ((fJ o).d)), .g (.int .i64 ((fJ o).s))])) := by
  refine ak Tryz.func143 rfl (by rw [Tryz.ntmps143]; simp) ?_
  simp only [Tryz.ntmps143, zM, PT.tv, au, Nat.zero_add, Nat.reduceAdd]
  repeat' (first
 | ((with_reducible show AW _ _ _ _); first
 | (with_reducible first | refine aS (fun K hK => ?_) | refine aI ?_ | refine aT ?_ | refine aC ?_ | refine aB ?_)
 | (first
 | (with_reducible first | refine aP 0 [0] ?_ | refine aP 1 [1,2] ?_ | refine aP 2 [1,2,4] ?_ | refine aP 3 [1,2] ?_ | refine aP 4 [1,2,4] ?_ | refine aP 5 [1,2] ?_ | refine aP 6 [1,2,4] ?_ | refine aP 7 [1,2] ?_ | refine aP 8 [1,2,4] ?_ | refine aP 9 [1,2] ?_ | refine aP 10 [1,2] ?_)))
 | (with_reducible refine aK ?_)
 | ((with_reducible show bL _ _ _ _ _ _); first
 | ((with_reducible refine aN ?_ ?_) <;> (intro hc; (try simp only [zB, zC, reduceCtorEq] at hc); (try (exfalso; contradiction)))))
 | ((fail_if_success (with_reducible show AW _ _ _ _)); simp (maxSteps := 2000000) only [go_sem, reduceIte, reduceCtorEq, xA, xL, xD, xE, xM, xS, xB, Tryz.f143])
 | ((with_reducible refine hK _ ?_); clear hK K))
  all_goals ((first | rw [aix (by assumption)] | rw [ahi (by assumption)] | rw [aj0 (by assumption)] | rw [aiI (by assumption)] | rw [ahh ⟨by assumption, by assumption, by assumption, by assumption⟩]); (repeat' (first | exact rfl | (with_reducible refine And.intro ?_ ?_) | (intro i q hi hq; exact IV.bn _))))
theorem agE (a b : fG) (ha : a.f.Ok) (hb : b.f.Ok) : aA Tryz.prog 58 [.agg [.g (.int .i64 (a.kd)), .g (.int .i64 (a.id)), .g (.int .i64 (a.f.id)), .g (.int .i64 (a.f.kd)), .g (.int .i64 (a.f.x)), .g (.int .i64 (a.f.y)), .g (.int .i64 (a.f.r)), .lst 2 a.f.n (eX a.f.P), .g (.int .i64 (a.f.d)), .g (.int .i64 (a.f.s)), .lst 6 a.f.m (eX a.f.S), .g (.int .i64 (a.x)), .g (.int .i64 (a.y)), .g (.int .i64 (a.r)), .g (.int .i64 (a.d)), .g (.int .i64 (a.s))], .agg [.g (.int .i64 (b.kd)), .g (.int .i64 (b.id)), .g (.int .i64 (b.f.id)), .g (.int .i64 (b.f.kd)), .g (.int .i64 (b.f.x)), .g (.int .i64 (b.f.y)), .g (.int .i64 (b.f.r)), .lst 2 b.f.n (eX b.f.P), .g (.int .i64 (b.f.d)), .g (.int .i64 (b.f.s)), .lst 6 b.f.m (eX b.f.S), .g (.int .i64 (b.x)), .g (.int .i64 (b.y)), .g (.int .i64 (b.r)), .g (.int .i64 (b.d)), .g (.int .i64 (b.s))]] (.t (.one (.g (.bool (zH a b))))) := by
  refine ak Tryz.func58 rfl (by rw [Tryz.ntmps58]; simp) ?_
  simp only [Tryz.ntmps58, zM, PT.tv, au, Nat.zero_add, Nat.reduceAdd]
  repeat' (first
 | ((with_reducible show AW _ _ _ _); first
 | (with_reducible first | refine aS (fun K hK => ?_) | refine aT ?_)
 | (first
 | (with_reducible first | refine aP 0 [0,1] ?_ | refine aP 1 [2,3] ?_)))
 | (((with_reducible refine Need.mk ?_)); focus ((intro _; (with_reducible assumption))))
 | (with_reducible refine aK ?_)
 | ((with_reducible show bM _ _ _ _ _ _ _ _ _ _); first
 | (refine aV (k := 108) IB (fun hg => acg _ _ ha hb) ?_ ?_))
 | ((fail_if_success (with_reducible show AW _ _ _ _)); simp (maxSteps := 2000000) only [go_sem, reduceIte, reduceCtorEq, xA, xL, xD, xE, xM, xS, xB, Tryz.f58, Go.Sea.oK])
 | ((with_reducible refine hK _ ?_); clear hK K))
  all_goals (unfold zH; refine Bool.eq_iff_iff.2 ?_; simp only [Bool.and_eq_true, decide_eq_true_eq, beq_iff_eq, and_assoc])
theorem ag7 (a : fG) (ha : a.f.Ok) (k i : Int) : aA Tryz.prog 58 [.agg [.g (.int .i64 (a.kd)), .g (.int .i64 (a.id)), .g (.int .i64 (a.f.id)), .g (.int .i64 (a.f.kd)), .g (.int .i64 (a.f.x)), .g (.int .i64 (a.f.y)), .g (.int .i64 (a.f.r)), .lst 2 a.f.n (eX a.f.P), .g (.int .i64 (a.f.d)), .g (.int .i64 (a.f.s)), .lst 6 a.f.m (eX a.f.S), .g (.int .i64 (a.x)), .g (.int .i64 (a.y)), .g (.int .i64 (a.r)), .g (.int .i64 (a.d)), .g (.int .i64 (a.s))], .agg [.g (.int .i64 k), .g (.int .i64 i), .g (.int .i64 0), .g (.int .i64 0), .g (.int .i64 0), .g (.int .i64 0), .g (.int .i64 0), .g (.slice none 0 0), .g (.int .i64 0), .g (.int .i64 0), .g (.slice none 0 0), .g (.int .i64 0), .g (.int .i64 0), .g (.int .i64 0), .g (.int .i64 0), .g (.int .i64 0)]] (.t (.one (.g (.bool (zH a (TS k i)))))) := by
  exact (agE a (TS k i) ha qy).eqv (by simp [TS, eG, aO, PT.eqv, IV.eqv]; exact ⟨fun i o _ _ => IV.bn _, fun i o _ _ => IV.bn _⟩) (PV.bn _)
theorem alX (o : fG) (ho : o.f.Ok) : aA Tryz.prog 107 [.agg [.g (.int .i64 (o.kd)), .g (.int .i64 (o.id)), .g (.int .i64 (o.f.id)), .g (.int .i64 (o.f.kd)), .g (.int .i64 (o.f.x)), .g (.int .i64 (o.f.y)), .g (.int .i64 (o.f.r)), .lst 2 o.f.n (eX o.f.P), .g (.int .i64 (o.f.d)), .g (.int .i64 (o.f.s)), .lst 6 o.f.m (eX o.f.S), .g (.int .i64 (o.x)), .g (.int .i64 (o.y)), .g (.int .i64 (o.r)), .g (.int .i64 (o.d)), .g (.int .i64 (o.s))]] (.t (.one (.g (.bool (yY o))))) := by
  refine ak Tryz.func107 rfl (by rw [Tryz.ntmps107]; simp) ?_
  simp only [Tryz.ntmps107, zM, PT.tv, au, Nat.zero_add, Nat.reduceAdd]
  repeat' (first
 | ((with_reducible show AW _ _ _ _); first
 | (with_reducible first | refine aS (fun K hK => ?_) | refine aI ?_ | refine aT ?_ | refine aC ?_ | refine aB ?_)
 | (first
 | (with_reducible refine aP 0 [0] ?_)
 | ((with_reducible refine aR (c := Code.region 1 _ true) [1] ?_); (with_reducible refine aD ?_ ?_ ?_ ?_); (focus kernel_rfl); (focus kernel_rfl); (focus kernel_rfl))
 | (with_reducible first | refine aP 2 [] ?_ | refine aP 3 [1] ?_ | refine aP 4 [1,23] ?_ | refine aP 5 [1] ?_ | refine aP 6 [1,23] ?_ | refine aP 7 [] ?_ | refine aP 8 [1,23] ?_ | refine aP 9 [1] ?_ | refine aP 10 [1,23] ?_ | refine aP 11 [1] ?_ | refine aP 12 [1,23] ?_ | refine aP 13 [1] ?_ | refine aP 14 [] ?_)))
 | ((first | (with_reducible refine And.intro ?_ ?_) | (with_reducible refine Need.mk ?_)); focus (first | (intro _; (with_reducible assumption)) | (simp; done)))
 | (with_reducible refine aK ?_)
 | ((with_reducible show bL _ _ _ _ _ _); first
 | ((with_reducible refine aN ?_ ?_) <;> (intro hc; (try simp only [zB, zC, reduceCtorEq] at hc); (try (exfalso; contradiction)))))
 | ((with_reducible refine And.intro ?_ ?_); focus ((with_reducible show iL _ _ _ = true); kernel_rfl))
 | ((with_reducible show nA _ _ _ _ _ _ _ _ _ _ _ _ _); first
 | (refine jG (k := 143) KH (fun hg => ajo o ho) ?_ ?_)
 | (refine jG (k := 58) HV (fun hg => ag7 (fJ o) (YF ho) _ _) ?_ ?_))
 | ((with_reducible show bM _ _ _ _ _ _ _ _ _ _); first
 | (refine aV (k := 133) Bt (fun hg => XE _ ho) ?_ ?_)
 | (refine aV (k := 144) jV (fun hg => yT _ _) ?_ ?_)
 | (refine aV (k := 145) Jg (fun hg => afE _ _ _ (by simp only [Bool.and_eq_true, decide_eq_true_eq] at hg; exact hg.2) (by simp only [Bool.and_eq_true, decide_eq_true_eq] at hg; omega)) ?_ ?_))
 | ((fail_if_success (with_reducible show AW _ _ _ _)); simp (maxSteps := 2000000) only [go_sem, reduceIte, reduceCtorEq, xA, xL, xD, xE, xM, xS, xB, Tryz.f107])
 | ((with_reducible refine hK _ ?_); clear hK K))
  all_goals (first | exact aom (by assumption) | exact aob (by assumption) (by assumption) | exact anY (by assumption) (by assumption) | exact aoO (by assumption) (by assumption) | exact aoo (by assumption) (by assumption) | exact an2 (by assumption) (by assumption) | exact aoE (by omega))
end Go.Proofs.YtcfechepbamhkaaGreat
set_option maxRecDepth 100000
set_option maxHeartbeats 4000000
namespace Go.Proofs.YtcfechepbamhkaaGreat
open Go.RowKit Go.Sea
open Nat renaming reduceAdd -> xA, reduceLT -> xL, reduceLeDiff -> xD, reduceEqDiff -> xE, reduceMul -> xM, reduceSub -> xS, reduceBEq -> xB
theorem akJ : Ii Tryz.prog 56 = none := by kernel_rfl
theorem D7 : aM Tryz.prog 105 = true := by kernel_rfl
theorem UR : aM Tryz.prog 106 = true := by kernel_rfl
theorem DR : aM Tryz.prog 107 = true := by kernel_rfl
theorem aaV : aM Tryz.prog 154 = true := by kernel_rfl
theorem AQ : aM Tryz.prog 142 = true := by kernel_rfl
theorem P9 : aM Tryz.prog 64 = true := by kernel_rfl
theorem anL : yu Tryz.prog 56 = some true := by kernel_rfl
theorem abg : dF Tryz.prog 58 0 = some 0 := by kernel_rfl
theorem aby : dF Tryz.prog 58 1 = some 1 := by kernel_rfl
theorem abF : dF Tryz.prog 58 2 = some 2 := by kernel_rfl
theorem al8 : rP Tryz.prog 56 = some (16, 160, 66) := by kernel_rfl
theorem anv : lD Tryz.prog 36 = some (false, 1) := by kernel_rfl
theorem amh : lD Tryz.prog 56 = some (false, 1) := by kernel_rfl
attribute [go_sem] akJ D7 DR aaV AQ P9 anL abg aby abF al8 anv amh
def bC (s : Nat -> Int) (i o : Nat) : IV := .g (.int .i64 (s i))
structure fF where
  ch : Int
  q : Nat
  a : Nat -> Int
  k : Nat
  o : Nat -> fG
structure ah where
  oc : Int
  nu : Int
  kd : Int
  fr : Int
  un : Int
  ca : Int
  n : Nat
  p : Nat -> fF
structure fF.Ok (p : fF) : Prop where
  q : p.q <= 9223372036854775807
  k : p.k <= 9223372036854775807
  o : ∀ i, i < p.k -> (p.o i).f.Ok
structure ah.Ok (N : ah) : Prop where
  n : N.n <= 9223372036854775807
  p : ∀ i, i < N.n -> (N.p i).Ok
def ahn : fG -> Nat -> IV
  | o, 0 => .g (.int .i64 (o.kd))
  | o, 1 => .g (.int .i64 (o.id))
  | o, 2 => .g (.int .i64 (o.f.id))
  | o, 3 => .g (.int .i64 (o.f.kd))
  | o, 4 => .g (.int .i64 (o.f.x))
  | o, 5 => .g (.int .i64 (o.f.y))
  | o, 6 => .g (.int .i64 (o.f.r))
  | o, 7 => .lst 2 o.f.n (eX o.f.P)
  | o, 8 => .g (.int .i64 (o.f.d))
  | o, 9 => .g (.int .i64 (o.f.s))
  | o, 10 => .lst 6 o.f.m (eX o.f.S)
  | o, 11 => .g (.int .i64 (o.x))
  | o, 12 => .g (.int .i64 (o.y))
  | o, 13 => .g (.int .i64 (o.r))
  | o, 14 => .g (.int .i64 (o.d))
  | o, _ + 15 => .g (.int .i64 (o.s))
def jq (o : Nat -> fG) (i c : Nat) : IV := ahn (o i) c
theorem amZ (o : Nat -> fG) (i : Nat) : jq o i 0 = .g (.int .i64 ((o i).kd)) := rfl
theorem anz (o : Nat -> fG) (i : Nat) : jq o i 1 = .g (.int .i64 ((o i).id)) := rfl
theorem anN (o : Nat -> fG) (i : Nat) : jq o i 2 = .g (.int .i64 ((o i).f.id)) := rfl
theorem am6 (o : Nat -> fG) (i : Nat) : jq o i 3 = .g (.int .i64 ((o i).f.kd)) := rfl
theorem ano (o : Nat -> fG) (i : Nat) : jq o i 4 = .g (.int .i64 ((o i).f.x)) := rfl
theorem alT (o : Nat -> fG) (i : Nat) : jq o i 5 = .g (.int .i64 ((o i).f.y)) := rfl
theorem akG (o : Nat -> fG) (i : Nat) : jq o i 6 = .g (.int .i64 ((o i).f.r)) := rfl
theorem akW (o : Nat -> fG) (i : Nat) : jq o i 7 = .lst 2 (o i).f.n (eX (o i).f.P) := rfl
theorem am5 (o : Nat -> fG) (i : Nat) : jq o i 8 = .g (.int .i64 ((o i).f.d)) := rfl
theorem ama (o : Nat -> fG) (i : Nat) : jq o i 9 = .g (.int .i64 ((o i).f.s)) := rfl
theorem ahJ (o : Nat -> fG) (i : Nat) : jq o i 10 = .lst 6 (o i).f.m (eX (o i).f.S) := rfl
theorem ahC (o : Nat -> fG) (i : Nat) : jq o i 11 = .g (.int .i64 ((o i).x)) := rfl
theorem ail (o : Nat -> fG) (i : Nat) : jq o i 12 = .g (.int .i64 ((o i).y)) := rfl
theorem ajT (o : Nat -> fG) (i : Nat) : jq o i 13 = .g (.int .i64 ((o i).r)) := rfl
theorem agV (o : Nat -> fG) (i : Nat) : jq o i 14 = .g (.int .i64 ((o i).d)) := rfl
theorem ajZ (o : Nat -> fG) (i : Nat) : jq o i 15 = .g (.int .i64 ((o i).s)) := rfl
attribute [go_sem] amZ anz anN am6 ano alT akG akW am5 ama ahJ ahC ail ajT agV ajZ
def Wt : fF -> Nat -> IV
  | p, 0 => .g (.int .i64 p.ch)
  | p, 1 => .lst 1 p.q (bC p.a)
  | p, _ + 2 => .lst 16 p.k (jq p.o)
def dZ (p : Nat -> fF) (i c : Nat) : IV := Wt (p i) c
theorem ahV (p : Nat -> fF) (i : Nat) : dZ p i 0 = .g (.int .i64 (p i).ch) := rfl
theorem ajc (p : Nat -> fF) (i : Nat) : dZ p i 1 = .lst 1 (p i).q (bC (p i).a) := rfl
theorem akc (p : Nat -> fF) (i : Nat) : dZ p i 2 = .lst 16 (p i).k (jq (p i).o) := rfl
def Er (s : ah) : PT := .agg [.g (.int .i64 s.oc), .g (.int .i64 s.nu), .g (.int .i64 s.kd), .g (.int .i64 s.fr), .g (.int .i64 s.un), .g (.int .i64 s.ca), .lst 3 s.n (dZ s.p)]
attribute [go_sem] Er
attribute [go_sem] ahV ajc akc
def nG (a : Nat -> Int) (nu : Int) (i : Nat) : Prop := 1 <= a i /\ a i < nu /\ (0 < i -> a (i - 1) < a i)
def oH (a : Nat -> Int) (i : Nat) : Int := if i = 0 then 0 else a (i - 1)
theorem qF (a : Nat -> Int) (i : Nat) : oH a (i + 1) = a i := by simp [oH]
theorem aes {a : Nat -> Int} {nu : Int} {i : Nat} (h : ∀ j, j < i -> nG a nu j) : 0 <= oH a i := by
  unfold oH; split
  · omega
  · have := (h (i - 1) (by omega)).1; omega
theorem anA {a : Nat -> Int} {nu : Int} {i : Nat} (h : ∀ j, j < i -> nG a nu j) (h1 : oH a i < a i) (h2 : a i < nu) : nG a nu i := by
  have h0 := aes h
  refine ⟨by omega, h2, fun hi => ?_⟩
  unfold oH at h1; rw [if_neg (by omega)] at h1; exact h1
theorem amE {a : Nat -> Int} {nu : Int} {i : Nat} (h1 : a i <= oH a i \/ nu <= a i) : ¬ nG a nu i := by
  rintro ⟨g1, g2, g3⟩
  unfold oH at h1
  by_cases hi : i = 0
  · rw [if_pos hi] at h1; omega
  · rw [if_neg hi] at h1; have := g3 (by omega); omega
instance (a : Nat -> Int) (nu : Int) (i : Nat) : Decidable (nG a nu i) := by unfold nG; infer_instance
def aaj (p : fF) (nu : Int) : Prop := ((1 <= p.ch /\ p.ch <= 1000) /\ p.q <= 100 /\ p.k <= 100) /\ (∀ i, i < p.q -> nG p.a nu i) /\ ∀ i, i < p.k -> yY (p.o i) = true
instance (p : fF) (nu : Int) : Decidable (aaj p nu) := by unfold aaj; infer_instance
def uD (p : fF) (nu : Int) : Bool := decide (aaj p nu)
theorem adV {p : fF} {nu : Int} (h : ¬ ((1 <= p.ch /\ p.ch <= 1000) /\ p.q <= 100 /\ p.k <= 100)) : false = uD p nu := (decide_eq_false fun g => h g.1).symm
theorem ad5 {p : fF} {nu : Int} {i : Nat} (hi : (i : Int) < p.q) (h : ¬ nG p.a nu i) : false = uD p nu := (decide_eq_false fun g => h (g.2.1 i (by omega))).symm
theorem adl {p : fF} {nu : Int} {i : Nat} (hi : (i : Int) < p.k) (h : yY (p.o i) = false) : false = uD p nu := (decide_eq_false fun g => by rw [g.2.2 i (by omega)] at h; cases h).symm
theorem ag4 {p : fF} {nu : Int} {i j : Nat} (h : (1 <= p.ch /\ p.ch <= 1000) /\ p.q <= 100 /\ p.k <= 100) (hi : (p.q : Int) <= i) (hai : ∀ i', i' < i -> nG p.a nu i') (hj : (p.k : Int) <= j) (haj : ∀ j', j' < j -> yY (p.o j') = true) : true = uD p nu :=
  (decide_eq_true ⟨h, fun k hk => hai k (by omega), fun k hk => haj k (by omega)⟩).symm
def Eo (n : ah) : Prop := (n.kd = 1 \/ n.kd = 3) /\ n.un = 0 /\ n.ca = 0 \/ n.kd = 2 /\ n.fr < n.un /\ 0 <= n.un /\ n.un <= 10000000 /\ n.ca = 0 \/ n.kd = 4 /\ n.un = 0 /\ 1 <= n.ca /\ n.ca < n.nu /\ n.n = 0
instance (n : ah) : Decidable (Eo n) := by unfold Eo; infer_instance
def Rt (n : ah) : Prop := ((1 <= n.oc /\ n.oc <= 20) /\ (1 <= n.nu /\ n.nu <= 10000) /\ (0 <= n.fr /\ n.fr <= 10000000)) /\ Eo n /\ n.n <= 20
instance (n : ah) : Decidable (Rt n) := by unfold Rt; infer_instance
def Mf (p : Nat -> fF) (i : Nat) : Int := if i = 0 then 0 else (p (i - 1)).ch
theorem MJ (p : Nat -> fF) (i : Nat) : Mf p (i + 1) = (p i).ch := by simp [Mf]
def npO (p : Nat -> fF) (nu : Int) (i : Nat) : Prop := (0 < i -> (p (i - 1)).ch < (p i).ch) /\ uD (p i) nu = true
instance (p : Nat -> fF) (nu : Int) (i : Nat) : Decidable (npO p nu i) := by unfold npO; infer_instance
def iy (n : ah) : Bool := decide (Rt n /\ ∀ i, i < n.n -> npO n.p n.nu i)
theorem adY {p : fF} {nu : Int} (h : uD p nu = true) : 1 <= p.ch := (of_decide_eq_true h).1.1.1
theorem ahe {n : ah} (h : ¬ Rt n) : false = iy n := (decide_eq_false fun g => h g.1).symm
theorem aj2 {n : ah} {i : Nat} (hi : (i : Int) < n.n) (h : (n.p i).ch <= Mf n.p i \/ uD (n.p i) n.nu = false) : false = iy n := (decide_eq_false fun g => by
  have g1 := g.2 i (by omega)
  have g2 := adY g1.2
  rcases h with h | h
  · unfold Mf at h
    by_cases h0 : i = 0
    · rw [if_pos h0] at h; omega
    · rw [if_neg h0] at h; have := g1.1 (by omega); omega
  · rw [g1.2] at h; cases h).symm
theorem aoB {p : Nat -> fF} {nu : Int} {i : Nat} (h1 : Mf p i < (p i).ch) (h2 : uD (p i) nu = true) : npO p nu i := by
  refine ⟨fun h0 => ?_, h2⟩
  unfold Mf at h1; rw [if_neg (by omega)] at h1; exact h1
theorem anF {n : ah} {i : Nat} (h : Rt n) (hi : (n.n : Int) <= i) (hai : ∀ i', i' < i -> npO n.p n.nu i') : true = iy n := (decide_eq_true ⟨h, fun k hk => hai k (by omega)⟩).symm
theorem abK (o : fG) (ho : o.f.Ok) : aA Tryz.prog 106 [.agg [.g (.int .i64 (o.kd)), .g (.int .i64 (o.id)), .g (.int .i64 (o.f.id)), .g (.int .i64 (o.f.kd)), .g (.int .i64 (o.f.x)), .g (.int .i64 (o.f.y)), .g (.int .i64 (o.f.r)), .lst 2 o.f.n (eX o.f.P), .g (.int .i64 (o.f.d)), .g (.int .i64 (o.f.s)), .lst 6 o.f.m (eX o.f.S), .g (.int .i64 (o.x)), .g (.int .i64 (o.y)), .g (.int .i64 (o.r)), .g (.int .i64 (o.d)), .g (.int .i64 (o.s))]] (.t (.one (.g (.bool (!yY o))))) := by
  refine ak Tryz.func106 rfl (by rw [Tryz.ntmps106]; simp) ?_
  simp only [Tryz.ntmps106, zM, PT.tv, au, Nat.zero_add, Nat.reduceAdd]
  repeat' (first
 | ((with_reducible show AW _ _ _ _); first
 | (with_reducible first | refine aS (fun K hK => ?_) | refine aT ?_)
 | (first
 | (with_reducible first | refine aP 0 [0] ?_ | refine aP 1 [1] ?_)))
 | (((with_reducible refine Need.mk ?_)); focus (exact True.intro))
 | (with_reducible refine aK ?_)
 | ((with_reducible show aZ _ _ _ _ _ _ _ _ _ _); first
 | (refine aG (k := 107) DR (alX _ ho) ?_ ?_))
 | ((fail_if_success (with_reducible show AW _ _ _ _)); simp (maxSteps := 2000000) only [go_sem, reduceIte, reduceCtorEq, xA, xL, xD, xE, xM, xS, xB, Tryz.f106])
 | ((with_reducible refine hK _ ?_); clear hK K))
theorem aib (p : fF) (nu : Int) (hp : p.Ok) : aA Tryz.prog 53 [.agg [.g (.int .i64 p.ch), .lst 1 p.q (bC p.a), .lst 16 p.k (jq p.o)], .one (.g (.int .i64 nu))] (.t (.one (.g (.bool (uD p nu))))) := by
  have hpq := hp.q
  have hpk := hp.k
  refine ak Tryz.func53 rfl (by rw [Tryz.ntmps53]; simp) ?_
  simp only [Tryz.ntmps53, zM, PT.tv, au, Nat.zero_add, Nat.reduceAdd]
  repeat' (first
 | ((with_reducible show AW _ _ _ _); first
 | (with_reducible first | refine aS (fun K hK => ?_) | refine aI ?_ | refine aX ?_ | refine aT ?_ | refine aC ?_ | refine aB ?_)
 | (first
 | (with_reducible first | refine aP 0 [0,1] ?_ | refine aP (ops := #[⟨some 8, _, _, _, _, _⟩, _, _, _, _, _, _, _, _, _, _, _, _, _, _, _, _, _, _, _]) 1 [1,2] ?_ | refine aP (ops := #[⟨some 5, _, _, _, _, _⟩, _, _, _, _]) 1 [0,1] ?_ | refine aP (ops := #[⟨some 6, _, _, _, _, _⟩, _, _]) 1 [0,1] ?_ | refine aP (ops := #[⟨some 4, _, _, _, _, _⟩]) 2 [] ?_ | refine aP (ops := #[⟨some 9, _, _, _, _, _⟩]) 2 [0,1,7,8] ?_ | refine aP (ops := #[⟨some 5, _, _, _, _, _⟩]) 3 [1,2] ?_ | refine aP (ops := #[⟨some 10, _, _, _, _, _⟩, _]) 3 [0,1,7,8] ?_ | refine aP (ops := #[⟨some 28, _, _, _, _, _⟩, _, _, _]) 4 [1,2,5] ?_ | refine aP (ops := #[⟨some 11, _, _, _, _, _⟩, _, _, _, _, _]) 4 [0,1,5,7,8] ?_ | refine aP (ops := #[⟨some 32, _, _, _, _, _⟩]) 5 [1,2,5,29,30,31] ?_ | refine aP (ops := #[⟨some 17, _, _, _, _, _⟩, _]) 5 [5] ?_ | refine aP (ops := #[⟨some 33, _, _, _, _, _⟩, _, _]) 6 [1,2,5,29,30,31] ?_ | refine aP (ops := #[⟨some 18, _, _, _, _, _⟩, _]) 6 [0,1,7,8] ?_ | refine aP (ops := #[⟨some 35, _, _, _, _, _⟩, _, _, _, _, _, _, _]) 7 [1,2,5,7,29,30,31] ?_ | refine aP (ops := #[⟨some 4, _, _, _, _, _⟩]) 7 [] ?_ | refine aP 8 [] ?_ | refine aP 9 [1,2,7,29,30,31] ?_ | refine aP 10 [1,2,5,29,30,31] ?_ | refine aP 11 [2] ?_))
 | ((with_reducible show AW _ (Code.loop _) _ _); first
 | ((with_reducible refine aL (c := (Code.seq (Code.region 5 _ _) _)) (ι := Nat) [1,2,29,30] (fun i => [(5, iA .i64 (oH p.a i)), (31, iA .i64 (i : Int))]) (fun i => []) (fun i => i <= p.q /\ (∀ i', i' < i -> nG p.a nu i')) (fun i => p.q - i) 0 ?lg5 ?l15 ?l25 ?li5 ?lr5); (case' lg5 => rintro i _); (case' li5 => try (exact ⟨Nat.zero_le _, fun i hi => absurd hi (Nat.not_lt_zero _)⟩)); (case' lr5 => rintro i ⟨hi, hai⟩ KR hR5; simp only [bG, dL, hset, lk, if_true, if_false, xE, reduceIte, zN, qF]))
 | ((with_reducible refine aL (c := (Code.seq (Code.region 2 _ _) _)) (ι := Nat) [0,1,7] (fun j => [(8, iA .i64 (j : Int))]) (fun j => []) (fun j => j <= p.k /\ (∀ j', j' < j -> yY (p.o j') = true)) (fun j => p.k - j) 0 ?lg2 ?l12 ?l22 ?li2 ?lr2); (case' lg2 => rintro j _); (case' li2 => try (exact ⟨Nat.zero_le _, fun i hi => absurd hi (Nat.not_lt_zero _)⟩)); (case' lr2 => rintro j ⟨hj, haj⟩ KR hR2; simp only [bG, dL, hset, lk, if_true, if_false, xE, reduceIte, zN, qF]))))
 | ((first | (with_reducible refine And.intro ?_ ?_) | (with_reducible refine Need.mk ?_)); focus (first | exact True.intro | omega | (simp; done)))
 | (with_reducible refine aK ?_)
 | ((with_reducible show bL _ _ _ _ _ _); first
 | ((with_reducible refine aN ?_ ?_) <;> (intro hc; (try simp only [zB, zC, reduceCtorEq] at hc); (try (exfalso; contradiction)))))
 | ((with_reducible show aZ _ _ _ _ _ _ _ _ _ _); first
 | (refine aG (k := 106) UR (abK _ (hp.o _ (by omega))) ?_ ?_)
 | ((refine bW (k := 105) Tryz.func105 rfl D7 (by rw [Tryz.ntmps105]; simp) ?_ ?_ (fun K hK => ?_)); (focus (exact True.intro)); (focus ((simp [iZ]; done))); simp only [Tryz.ntmps105, List.map_cons, List.map_nil, List.nil_append, List.cons_append, List.append_nil, LV.tv, au, Nat.zero_add, Nat.reduceAdd])
 | ((refine bW (k := 142) Tryz.func142 rfl AQ (by rw [Tryz.ntmps142]; simp) ?_ ?_ (fun K hK => ?_)); (focus (exact True.intro)); (focus ((simp [iZ]; done))); simp only [Tryz.ntmps142, List.map_cons, List.map_nil, List.nil_append, List.cons_append, List.append_nil, LV.tv, au, Nat.zero_add, Nat.reduceAdd]))
 | ((with_reducible refine hR5 _ (i + 1) ?_); (try clear hR5 KR))
 | ((with_reducible refine hR2 _ (j + 1) ?_); (try clear hR2 KR))
 | ((with_reducible refine Told.mk ?_); simp only [go_sem, reduceIte, reduceCtorEq, xA, xL, xD, xE, xM, xS, xB, bC, qF] <;> ((((try simp (disch := omega) only [aY, Int.natCast_add, Int.cast_ofNat_Int, and_true, true_and, and_self]); (repeat' (first | omega | rfl | (with_reducible refine And.intro ?_ ?_) | (exact all_succ (by assumption) (by assumption)) | ((exact all_succ (by assumption) (anA (by assumption) (by omega) (by omega)))))); done))))
 | ((fail_if_success (with_reducible show AW _ _ _ _)); simp (maxSteps := 2000000) only [go_sem, reduceIte, reduceCtorEq, xA, xL, xD, xE, xM, xS, xB, Tryz.f53, Tryz.f105, Tryz.f142, bC, qF])
 | ((with_reducible refine hK _ ?_); clear hK K)
 | (with_reducible apply_assumption -exfalso only [*]))
  all_goals (first | exact adV (by omega) | exact ad5 (by assumption) (amE (by omega)) | exact adl (by assumption) (by assumption) | exact ag4 (by omega) (by assumption) hai (by assumption) haj)
end Go.Proofs.YtcfechepbamhkaaGreat
set_option maxRecDepth 100000
set_option maxHeartbeats 4000000
namespace Go.Proofs.YtcfechepbamhkaaGreat
open Go.RowKit Go.Sea
open Nat renaming reduceAdd -> xA, reduceLT -> xL, reduceLeDiff -> xD, reduceEqDiff -> xE, reduceMul -> xM, reduceSub -> xS, reduceBEq -> xB
theorem anH : Ii Tryz.prog 26 = none := by kernel_rfl
theorem Ah : aM Tryz.prog 51 = true := by kernel_rfl
theorem OB : aM Tryz.prog 52 = true := by kernel_rfl
theorem PL : aM Tryz.prog 53 = true := by kernel_rfl
theorem ak9 : yu Tryz.prog 26 = some true := by kernel_rfl
theorem ae1 : dF Tryz.prog 28 0 = some 0 := by kernel_rfl
theorem aeM : dF Tryz.prog 28 1 = some 1 := by kernel_rfl
theorem adb : dF Tryz.prog 28 2 = some 2 := by kernel_rfl
theorem ac2 : dF Tryz.prog 28 3 = some 3 := by kernel_rfl
theorem aeC : dF Tryz.prog 28 4 = some 4 := by kernel_rfl
theorem adn : dF Tryz.prog 28 5 = some 5 := by kernel_rfl
theorem abd : dF Tryz.prog 28 6 = some 6 := by kernel_rfl
theorem anp : rP Tryz.prog 26 = some (3, 56, 58) := by kernel_rfl
theorem amS : lD Tryz.prog 26 = some (false, 1) := by kernel_rfl
theorem akI : lD Tryz.prog 28 = some (true, 7) := by kernel_rfl
theorem amU : lD Tryz.prog 58 = some (true, 3) := by kernel_rfl
theorem amq : fO Tryz.prog 58 = some [.iv (.g (.int .i64 0)), .iv (.g (.slice none 0 0)), .iv (.g (.slice none 0 0))] := by kernel_rfl
attribute [go_sem] anH Ah OB PL ak9 ae1 aeM adb ac2 aeC adn abd anp amS akI amU amq
theorem aj7 {n : ah} (h : (((((1 <= n.oc /\ n.oc <= 20) /\ 1 <= n.nu) /\ n.nu <= 10000) /\ 0 <= n.fr /\ n.fr <= 10000000) /\ Eo n) /\ (n.n : Int) <= 20) : Rt n := ⟨⟨h.1.1.1.1.1, ⟨h.1.1.1.1.2, h.1.1.1.2⟩, h.1.1.2⟩, h.1.2, by omega⟩
theorem agP {n : ah} (h : (((((n.oc < 1 \/ n.oc > 20) \/ n.nu < 1) \/ n.nu > 10000) \/ ¬ (0 <= n.fr /\ n.fr <= 10000000)) \/ ¬ Eo n) \/ (n.n : Int) > 20) : false = iy n := ahe fun g => by
  have g1 := g.1
  have g2 := g.2.1
  have g3 := g.2.2
  rcases h with (h | h) | h
  · omega
  · exact h g2
  · omega
theorem El (t : Int) : aA Tryz.prog 51 [.one (.g (.int .i64 t))] (.t (.one (.g (.bool (decide (0 <= t /\ t <= 10000000)))))) := by
  refine ak Tryz.func51 rfl (by rw [Tryz.ntmps51]; simp) ?_
  simp only [Tryz.ntmps51, zM, PT.tv, au, Nat.zero_add, Nat.reduceAdd]
  repeat' (first
 | ((with_reducible show AW _ _ _ _); first
 | (with_reducible first | refine aS (fun K hK => ?_) | refine aT ?_)
 | (first
 | (with_reducible first | refine aP 0 [0] ?_ | refine aP 1 [0] ?_)))
 | (with_reducible refine aK ?_)
 | ((fail_if_success (with_reducible show AW _ _ _ _)); simp (maxSteps := 2000000) only [go_sem, reduceIte, reduceCtorEq, xA, xL, xD, xE, xM, xS, xB, Tryz.f51])
 | ((with_reducible refine hK _ ?_); clear hK K))
  all_goals ((try refine Bool.eq_iff_iff.2 ?_); (simp only [Bool.and_eq_true, Bool.or_eq_true, Bool.not_eq_true', decide_eq_true_eq, decide_eq_false_iff_not, bne_iff_ne, beq_iff_eq, ne_eq, ge_iff_le, gt_iff_lt, cond_eq_ite, iff_self, eq_self]; done))
theorem aht (n : ah) (ho : n.Ok) : aA Tryz.prog 52 [(Er n)] (.t (.one (.g (.bool (decide (Eo n)))))) := by
  refine ak Tryz.func52 rfl (by rw [Tryz.ntmps52]; simp) ?_
  simp only [Er, Tryz.ntmps52, zM, PT.tv, au, Nat.zero_add, Nat.reduceAdd]
  repeat' (first
 | ((with_reducible show AW _ _ _ _); first
 | (with_reducible first | refine aS (fun K hK => ?_) | refine aI ?_ | refine aT ?_ | refine aC ?_ | refine aB ?_)
 | (first
 | (with_reducible first | refine aP 0 [0] ?_ | refine aP 1 [1] ?_ | refine aP 2 [1,4] ?_ | refine aP 3 [1,4] ?_ | refine aP 4 [1] ?_ | refine aP 5 [1,4] ?_ | refine aP 6 [1] ?_ | refine aP 7 [1,4] ?_ | refine aP 8 [1] ?_ | refine aP 9 [] ?_)))
 | (((with_reducible refine Need.mk ?_)); focus ((intro _; (with_reducible assumption))))
 | (with_reducible refine aK ?_)
 | ((with_reducible show bL _ _ _ _ _ _); first
 | ((with_reducible refine aN ?_ ?_) <;> (intro hc; (try simp only [zB, zC, reduceCtorEq] at hc); (try (exfalso; contradiction)))))
 | ((with_reducible show bM _ _ _ _ _ _ _ _ _ _); first
 | (refine aV (k := 51) Ah (fun hg => El _) ?_ ?_))
 | ((fail_if_success (with_reducible show AW _ _ _ _)); simp (maxSteps := 2000000) only [go_sem, reduceIte, reduceCtorEq, xA, xL, xD, xE, xM, xS, xB, Tryz.f52])
 | ((with_reducible refine hK _ ?_); clear hK K))
  all_goals ((refine Bool.eq_iff_iff.2 ?_; simp only [Bool.and_eq_true, beq_iff_eq, decide_eq_true_eq, reduceCtorEq, false_iff]; unfold Eo; omega))
theorem pU (n : ah) (ho : n.Ok) : aA Tryz.prog 18 [(Er n)] (.t (.one (.g (.bool (iy n))))) := by
  have hnn := ho.n
  refine ak Tryz.func18 rfl (by rw [Tryz.ntmps18]; simp) ?_
  simp only [Er, Tryz.ntmps18, zM, PT.tv, au, Nat.zero_add, Nat.reduceAdd]
  repeat' (first
 | ((with_reducible show AW _ _ _ _); first
 | (with_reducible first | refine aS (fun K hK => ?_) | refine aI ?_ | refine aX ?_ | refine aT ?_ | refine aC ?_ | refine aB ?_)
 | (first
 | (with_reducible first | refine aP 0 [0] ?_ | refine aP 1 [1] ?_ | refine aP 2 [] ?_ | refine aP 3 [1] ?_ | refine aP 4 [1,3] ?_ | refine aP 5 [1,3,42,43,44] ?_ | refine aP 6 [1,3,42,43,44] ?_ | refine aP 7 [1,3,5,42,43,44] ?_ | refine aP 8 [] ?_ | refine aP 9 [1,5,42,43,44] ?_ | refine aP 10 [1,3,42,43,44] ?_ | refine aP 11 [] ?_))
 | ((with_reducible show AW _ (Code.loop _) _ _); first
 | ((with_reducible refine aL (c := (Code.seq (Code.region 5 _ _) _)) (ι := Nat) [1,42,43] (fun i => [(3, iA .i64 (Mf n.p i)), (44, iA .i64 (i : Int))]) (fun i => []) (fun i => i <= n.n /\ (∀ i', i' < i -> npO n.p n.nu i')) (fun i => n.n - i) 0 ?lg5 ?l15 ?l25 ?li5 ?lr5); (case' lg5 => rintro i _); (case' li5 => try (exact ⟨Nat.zero_le _, fun i hi => absurd hi (Nat.not_lt_zero _)⟩)); (case' lr5 => rintro i ⟨hi, hai⟩ KR hR5; simp only [bG, dL, hset, lk, if_true, if_false, xE, reduceIte, zN, MJ]))))
 | ((first | (with_reducible refine And.intro ?_ ?_) | (with_reducible refine Need.mk ?_)); focus (first | omega | (intro _; (with_reducible assumption)) | (simp; done)))
 | (with_reducible refine aK ?_)
 | ((with_reducible show bL _ _ _ _ _ _); first
 | ((with_reducible refine aN ?_ ?_) <;> (intro hc; (try simp only [zB, zC, reduceCtorEq] at hc); (try (exfalso; contradiction)))))
 | ((with_reducible show bM _ _ _ _ _ _ _ _ _ _); first
 | (refine aV (k := 51) Ah (fun hg => El _) ?_ ?_)
 | (refine aV (k := 52) OB (fun hg => aht n ho) ?_ ?_)
 | (refine aV (k := 53) PL (fun hg => aib (n.p i) n.nu (ho.p i (by omega))) ?_ ?_))
 | ((with_reducible refine hR5 _ (i + 1) ?_); (try clear hR5 KR))
 | ((with_reducible refine Told.mk ?_); simp only [go_sem, reduceIte, reduceCtorEq, xA, xL, xD, xE, xM, xS, xB, bC, MJ] <;> ((((try simp (disch := omega) only [aY, Int.natCast_add, Int.cast_ofNat_Int, and_true, true_and, and_self]); (repeat' (first | omega | rfl | (with_reducible refine And.intro ?_ ?_) | ((exact all_succ (by assumption) (aoB hc.1 hc.2))))); done))))
 | ((fail_if_success (with_reducible show AW _ _ _ _)); simp (maxSteps := 2000000) only [go_sem, reduceIte, reduceCtorEq, xA, xL, xD, xE, xM, xS, xB, Tryz.f18, bC, MJ])
 | ((with_reducible refine hK _ ?_); clear hK K)
 | (with_reducible apply_assumption -exfalso only [*]))
  all_goals (first | exact agP hc | exact aj2 (by assumption) hc | exact anF (aj7 (by assumption)) (by assumption) hai)
end Go.Proofs.YtcfechepbamhkaaGreat
namespace Go.Proofs.YtcfechepbamhkaaGreat
open Go.RowKit Go.Sea
open Nat renaming reduceAdd -> xA, reduceLT -> xL, reduceLeDiff -> xD, reduceEqDiff -> xE, reduceMul -> xM, reduceSub -> xS, reduceBEq -> xB
theorem am7 : Ii Tryz.prog 37 = none := by kernel_rfl
theorem alD : yu Tryz.prog 37 = some true := by kernel_rfl
theorem alR : rP Tryz.prog 37 = some (9, 104, 64) := by kernel_rfl
attribute [go_sem] am7 alD alR
def V5 : aW -> Nat -> IV
  | f, 0 => .g (.int .i64 (f.id))
  | f, 1 => .g (.int .i64 (f.kd))
  | f, 2 => .g (.int .i64 (f.x))
  | f, 3 => .g (.int .i64 (f.y))
  | f, 4 => .g (.int .i64 (f.r))
  | f, 5 => .lst 2 f.n (eX f.P)
  | f, 6 => .g (.int .i64 (f.d))
  | f, 7 => .g (.int .i64 (f.s))
  | f, _ + 8 => .lst 6 f.m (eX f.S)
def dN (f : Nat -> aW) (i c : Nat) : IV := V5 (f i) c
theorem ajE (f : Nat -> aW) (i : Nat) : dN f i 0 = .g (.int .i64 ((f i).id)) := rfl
theorem ahs (f : Nat -> aW) (i : Nat) : dN f i 1 = .g (.int .i64 ((f i).kd)) := rfl
theorem aju (f : Nat -> aW) (i : Nat) : dN f i 2 = .g (.int .i64 ((f i).x)) := rfl
theorem ahN (f : Nat -> aW) (i : Nat) : dN f i 3 = .g (.int .i64 ((f i).y)) := rfl
theorem aiP (f : Nat -> aW) (i : Nat) : dN f i 4 = .g (.int .i64 ((f i).r)) := rfl
theorem ahA (f : Nat -> aW) (i : Nat) : dN f i 5 = .lst 2 (f i).n (eX (f i).P) := rfl
theorem akk (f : Nat -> aW) (i : Nat) : dN f i 6 = .g (.int .i64 ((f i).d)) := rfl
theorem ait (f : Nat -> aW) (i : Nat) : dN f i 7 = .g (.int .i64 ((f i).s)) := rfl
theorem ais (f : Nat -> aW) (i : Nat) : dN f i 8 = .lst 6 (f i).m (eX (f i).S) := rfl
attribute [go_sem] ajE ahs aju ahN aiP ahA akk ait ais
def Nr (f : Nat -> aW) (i : Nat) : Int := if i = 0 then 0 else (f (i - 1)).id
theorem Nz (f : Nat -> aW) (i : Nat) : Nr f (i + 1) = (f i).id := by simp [Nr]
def QZ (f : Nat -> aW) (i : Nat) : Prop := jw (f i) = true /\ (0 < i -> (f (i - 1)).id < (f i).id)
instance (f : Nat -> aW) (i : Nat) : Decidable (QZ f i) := by unfold QZ; infer_instance
def oz (n : Nat) (f : Nat -> aW) : Bool := decide (n <= 300 /\ ∀ i, i < n -> QZ f i)
theorem afx {f : aW} (h : jw f = true) : 1 <= f.id := ((jQ f).1 h).1.1
theorem anl {n : Nat} {f : Nat -> aW} {i : Nat} (hi : (i : Int) < n) (h : jw (f i) = false \/ (f i).id <= Nr f i) : false = oz n f := (decide_eq_false fun g => by
  have g1 := g.2 i (by omega)
  rcases h with h | h
  · rw [g1.1] at h; cases h
  · have := afx g1.1
    unfold Nr at h
    by_cases h0 : i = 0
    · rw [if_pos h0] at h; omega
    · rw [if_neg h0] at h; have := g1.2 (by omega); omega).symm
theorem alm {f : Nat -> aW} {i : Nat} (h : jw (f i) = true /\ Nr f i < (f i).id) : QZ f i := by
  refine ⟨h.1, fun h0 => ?_⟩
  have := h.2
  unfold Nr at this; rw [if_neg (by omega)] at this; exact this
theorem al4 {n : Nat} {f : Nat -> aW} {i : Nat} (hi : (n : Int) <= i) (g : ∀ i', i' < i -> QZ f i') : decide ((n : Int) <= 300) = oz n f := by
  unfold oz; exact decide_eq_decide.2 ⟨fun h => ⟨by omega, fun k hk => g k (by omega)⟩, fun h => by omega⟩
structure sN where
  A : Int
  B : Int
  C : Int
  D : Int
  E : Int
  F : Int
  R : Int
def MQ (m : sN) : Prop := ((-2000000 <= m.A /\ m.A <= 2000000) /\ (-2000000 <= m.B /\ m.B <= 2000000) /\ (-2000000 <= m.D /\ m.D <= 2000000) /\ (-2000000 <= m.E /\ m.E <= 2000000)) /\ 250000000000 <= m.A * m.E - m.B * m.D /\ (-100000 <= m.C /\ m.C <= 100000) /\ (-100000 <= m.F /\ m.F <= 100000) /\ (0 <= m.R /\ m.R <= 1000)
instance (m : sN) : Decidable (MQ m) := by unfold MQ; infer_instance
def Tq (m : sN) : Bool := decide (MQ m)
structure aF where
  ch : Int
  sc : Int
  ed : Int
  m : sN
  cap : Int
  q : Nat
  dn : Nat -> Int
  n : Nat
  f : Nat -> aW
structure aF.Ok (s : aF) : Prop where
  q : s.q <= 9223372036854775807
  n : s.n <= 9223372036854775807
  f : ∀ i, i < s.n -> (s.f i).Ok
def yR (q : Nat) (a : Nat -> Int) : Bool := decide (q <= 200 /\ ∀ i, i < q -> nG a 10001 i)
def dW (s : aF) : Bool := yR s.q s.dn && decide ((1 <= s.ch /\ s.ch <= 1000) /\ (1 <= s.sc /\ s.sc <= 1000) /\ (1 <= s.ed /\ s.ed <= 1000) /\ (1 <= s.cap /\ s.cap <= 100000)) && Tq s.m && oz s.n s.f
def lY (s : aF) : PT := .agg [.g (.int .i64 s.ch), .g (.int .i64 s.sc), .g (.int .i64 s.ed), .g (.int .i64 s.m.A), .g (.int .i64 s.m.B), .g (.int .i64 s.m.C), .g (.int .i64 s.m.D), .g (.int .i64 s.m.E), .g (.int .i64 s.m.F), .g (.int .i64 s.m.R), .g (.int .i64 s.cap), .lst 1 s.q (bC s.dn), .lst 9 s.n (dN s.f)]
attribute [go_sem] lY
set_option maxRecDepth 100000 in
set_option maxHeartbeats 4000000 in
theorem Ap (n : Nat) (f : Nat -> aW) (hn : n <= 9223372036854775807) (hf : ∀ i, i < n -> (f i).Ok) : aA Tryz.prog 95 [.one (.lst 9 n (dN f))] (.t (.one (.g (.bool (oz n f))))) := by
  refine ak Tryz.func95 rfl (by rw [Tryz.ntmps95]; simp) ?_
  simp only [Tryz.ntmps95, zM, PT.tv, au, Nat.zero_add, Nat.reduceAdd]
  repeat' (first
 | ((with_reducible show AW _ _ _ _); first
 | (with_reducible first | refine aS (fun K hK => ?_) | refine aI ?_ | refine aX ?_ | refine aT ?_ | refine aC ?_ | refine aB ?_)
 | (first
 | (with_reducible first | refine aP 0 [0] ?_ | refine aP 1 [0] ?_ | refine aP 2 [0,3] ?_ | refine aP 3 [0,3,6,7,8] ?_ | refine aP 4 [0,3,6,7,8] ?_ | refine aP 5 [0,3,5,6,7,8] ?_ | refine aP 6 [] ?_ | refine aP 7 [0,5,6,7,8] ?_ | refine aP 8 [0,3,6,7,8] ?_ | refine aP 9 [0] ?_))
 | ((with_reducible show AW _ (Code.loop _) _ _); first
 | ((with_reducible refine aL (c := (Code.seq (Code.region 3 _ _) _)) (ι := Nat) [0,6,7] (fun i => [(3, iA .i64 (Nr f i)), (8, iA .i64 (i : Int))]) (fun i => []) (fun i => i <= n /\ (∀ i', i' < i -> QZ f i')) (fun i => n - i) 0 ?lg3 ?l13 ?l23 ?li3 ?lr3); (case' lg3 => rintro i _); (case' li3 => try (exact ⟨Nat.zero_le _, fun i hi => absurd hi (Nat.not_lt_zero _)⟩)); (case' lr3 => rintro i ⟨hi, hai⟩ KR hR3; simp only [bG, dL, hset, lk, if_true, if_false, xE, reduceIte, zN, Nz]))))
 | ((first | (with_reducible refine And.intro ?_ ?_) | (with_reducible refine Need.mk ?_)); focus (first | exact True.intro | omega | (simp; done)))
 | (with_reducible refine aK ?_)
 | ((with_reducible show bL _ _ _ _ _ _); first
 | ((with_reducible refine aN ?_ ?_) <;> (intro hc; (try simp only [zB, zC, reduceCtorEq] at hc); (try (exfalso; contradiction)))))
 | ((with_reducible show aZ _ _ _ _ _ _ _ _ _ _); first
 | (refine aG (k := 133) Bt (XE (f i) (hf i (by omega))) ?_ ?_))
 | ((with_reducible refine hR3 _ (i + 1) ?_); (try clear hR3 KR))
 | ((with_reducible refine Told.mk ?_); simp only [go_sem, reduceIte, reduceCtorEq, xA, xL, xD, xE, xM, xS, xB, Nz] <;> ((((try simp (disch := omega) only [aY, Int.natCast_add, Int.cast_ofNat_Int, and_true, true_and, and_self]); (repeat' (first | omega | rfl | (with_reducible refine And.intro ?_ ?_) | ((exact all_succ (by assumption) (alm hc))))); done))))
 | ((fail_if_success (with_reducible show AW _ _ _ _)); simp (maxSteps := 2000000) only [go_sem, reduceIte, reduceCtorEq, xA, xL, xD, xE, xM, xS, xB, Tryz.f95, Nz])
 | ((with_reducible refine hK _ ?_); clear hK K)
 | (with_reducible apply_assumption -exfalso only [*]))
  all_goals first | exact anl (by assumption) hc | exact al4 (by assumption) hai | skip
end Go.Proofs.YtcfechepbamhkaaGreat
set_option maxRecDepth 100000
set_option maxHeartbeats 4000000
namespace Go.Proofs.YtcfechepbamhkaaGreat
open Go.RowKit Go.Sea
open Nat renaming reduceAdd -> xA, reduceLT -> xL, reduceLeDiff -> xD, reduceEqDiff -> xE, reduceMul -> xM, reduceSub -> xS, reduceBEq -> xB
theorem ZW : aM Tryz.prog 174 = true := by kernel_rfl
theorem JA : aM Tryz.prog 175 = true := by kernel_rfl
theorem vG : aM Tryz.prog 227 = true := by kernel_rfl
attribute [go_sem] JA vG
def mD (f : aW) (o : fG) : Int := if (o.kd = 3 /\ ((f.kd = 3 \/ f.kd = 6) \/ f.kd = 4 /\ o.r ≠ 0)) \/ (o.kd = 4 /\ (f.kd = 4 \/ f.kd = 6)) then 12 else 0
def mR (f : aW) (o : fG) : aW := if o.kd = 3 then { f with x := o.x, y := o.y, r := o.r } else if o.kd = 4 then { f with d := o.d } else if o.kd = 5 then { f with s := o.s } else f
def idx (L : List aW) (k : Int) : Option aW := L.find? fun f => f.id = k
def nH (L : List aW) (f : aW) : List aW := L.filter (fun g => g.id < f.id) ++ f :: L.filter (fun g => f.id < g.id)
def oZ (L : List aW) (k : Int) : List aW := L.filter fun g => g.id ≠ k
def vP (L : List aW) : Prop := L.Pairwise fun f g => f.id < g.id
def ow (L : List aW) (o : fG) : Int × List aW :=
  if o.kd = 1 then (match idx L o.id with
    | some _ => (5, L)
    | none => if 300 <= L.length then (2, L) else (0, nH L o.f))
  else match idx L o.id with
    | none => (4, L)
    | some f => if o.kd = 2 then (0, oZ L o.id) else if mD f o = 0 then (0, nH (oZ L o.id) (mR f o)) else (mD f o, L)
theorem Ox (f : aW) (o : fG) : (mR f o).id = f.id := by
  unfold mR; repeat' split
  all_goals rfl
theorem kI {L : List aW} {k : Int} {f : aW} (h : idx L k = some f) : f ∈ L /\ f.id = k := by
  have h1 := List.find?_some h
  exact ⟨List.mem_of_find?_eq_some h, by simpa using h1⟩
theorem qJ {L : List aW} {k : Int} : idx L k = none ↔ ∀ f, f ∈ L -> f.id ≠ k := by
  unfold idx; rw [List.find?_eq_none]; simp
theorem qO {L : List aW} (h : vP L) {f : aW} (hf : f ∈ L) : idx L f.id = some f := by
  induction L with
  | nil => cases hf
  | cons g L ih =>
    have h1 := List.pairwise_cons.1 h
    unfold idx
    rw [List.find?_cons]
    rcases List.mem_cons.1 hf with e | e
    · subst e; simp
    · have := h1.1 f e
      rw [decide_eq_false (by omega)]
      exact ih h1.2 e
theorem tN {L : List aW} (h : vP L) (p : aW -> Bool) : vP (L.filter p) := List.Pairwise.filter p h
theorem Au {L : List aW} (h : vP L) (k : Int) : vP (oZ L k) := tN h _
theorem zW {L : List aW} (h : vP L) (f : aW) : vP (nH L f) := by
  unfold nH vP
  rw [List.pairwise_append]
  refine ⟨tN h _, List.pairwise_cons.2 ⟨fun g hg => ?_, tN h _⟩, fun a ha b hb => ?_⟩
  · simpa using (List.mem_filter.1 hg).2
  · have h1 : a.id < f.id := by simpa using (List.mem_filter.1 ha).2
    rcases List.mem_cons.1 hb with e | e
    · subst e; exact h1
    · have h2 : f.id < b.id := by simpa using (List.mem_filter.1 e).2
      omega
theorem Af {L : List aW} {f g : aW} : g ∈ nH L f ↔ g = f \/ (g ∈ L /\ g.id ≠ f.id) := by
  unfold nH
  simp only [List.mem_append, List.mem_cons, List.mem_filter, decide_eq_true_eq]
  constructor
  · rintro (⟨h1, h2⟩ | h | ⟨h1, h2⟩)
    · exact Or.inr ⟨h1, by omega⟩
    · exact Or.inl h
    · exact Or.inr ⟨h1, by omega⟩
  · rintro (h | ⟨h1, h2⟩)
    · exact Or.inr (Or.inl h)
    · rcases Int.lt_or_lt_of_ne h2 with h3 | h3
      · exact Or.inl ⟨h1, h3⟩
      · exact Or.inr (Or.inr ⟨h1, h3⟩)
theorem Ab {L : List aW} {k : Int} {g : aW} : g ∈ oZ L k ↔ g ∈ L /\ g.id ≠ k := by
  unfold oZ; simp [List.mem_filter]
theorem PS {L : List aW} (h : vP L) (f : aW) (k : Int) : idx (nH L f) k = if k = f.id then some f else idx L k := by
  by_cases hk : k = f.id
  · rw [if_pos hk, hk]; exact qO (zW h f) (Af.2 (Or.inl rfl))
  · rw [if_neg hk]
    cases hi : idx L k with
    | none =>
      rw [qJ] at hi ⊢
      intro g hg
      rcases Af.1 hg with e | e
      · subst e; exact fun h' => hk h'.symm
      · exact hi g e.1
    | some g =>
      obtain ⟨h1, h2⟩ := kI hi
      rw [<- h2]
      exact qO (zW h f) (Af.2 (Or.inr ⟨h1, by omega⟩))
theorem zZ {L : List aW} (h : vP L) (c k : Int) : idx (oZ L c) k = if k = c then none else idx L k := by
  by_cases hk : k = c
  · rw [if_pos hk, hk, qJ]
    intro g hg; exact (Ab.1 hg).2
  · rw [if_neg hk]
    cases hi : idx L k with
    | none =>
      rw [qJ] at hi ⊢
      intro g hg; exact hi g (Ab.1 hg).1
    | some g =>
      obtain ⟨h1, h2⟩ := kI hi
      rw [<- h2]
      exact qO (Au h c) (Ab.2 ⟨h1, by omega⟩)
theorem Ig {L : List aW} (h : vP L) {k : Int} {f : aW} (hf : idx L k = some f) : (oZ L k).length + 1 = L.length := by
  induction L with
  | nil => simp [idx] at hf
  | cons g L ih =>
    have h1 := List.pairwise_cons.1 h
    unfold oZ
    rw [List.filter_cons]
    by_cases hg : g.id = k
    · have e : L.filter (fun g => decide (g.id ≠ k)) = L := List.filter_eq_self.2 fun a ha => by
        have := h1.1 a ha
        simp; omega
      rw [if_neg (by simp [hg]), e]; rfl
    · have hf' : idx L k = some f := by
        unfold idx at hf ⊢
        rw [List.find?_cons, decide_eq_false hg] at hf
        exact hf
      have := ih h1.2 hf'
      unfold oZ at this
      simp [hg]; simpa using this
theorem Aa {L : List aW} {f : aW} (hf : idx L f.id = none) : (nH L f).length = L.length + 1 := by
  have h := qJ.1 hf
  clear hf
  unfold nH
  rw [List.length_append, List.length_cons]
  induction L with
  | nil => rfl
  | cons g L ih =>
    have h1 := h g (List.mem_cons_self ..)
    have h2 := ih fun a ha => h a (List.mem_cons_of_mem _ ha)
    rw [List.filter_cons, List.filter_cons]
    rcases Int.lt_or_lt_of_ne h1 with h3 | h3
    · have h4 : ¬ f.id < g.id := by omega
      simp [h3, h4] at h2 ⊢; omega
    · have h4 : ¬ g.id < f.id := by omega
      simp [h3, h4] at h2 ⊢; omega
theorem Oj : ∀ {l m : List Int}, l.Pairwise (· < ·) -> m.Pairwise (· < ·) -> (∀ x, x ∈ l ↔ x ∈ m) -> l = m
  | [], [], _, _, _ => rfl
  | [], b :: m, _, _, h => absurd ((h b).2 (List.mem_cons_self ..)) (List.not_mem_nil)
  | a :: l, [], _, _, h => absurd ((h a).1 (List.mem_cons_self ..)) (List.not_mem_nil)
  | a :: l, b :: m, hl, hm, h => by
    have hl1 := List.pairwise_cons.1 hl
    have hm1 := List.pairwise_cons.1 hm
    have hab : a = b := by
      have h1 := (h a).1 (List.mem_cons_self ..)
      have h2 := (h b).2 (List.mem_cons_self ..)
      rcases List.mem_cons.1 h1 with e | e
      · exact e
      · rcases List.mem_cons.1 h2 with e2 | e2
        · exact e2.symm
        · have := hl1.1 b e2
          have := hm1.1 a e
          omega
    subst hab
    have : l = m := Oj hl1.2 hm1.2 fun x => by
      constructor
      · intro hx
        have h1 := hl1.1 x hx
        rcases List.mem_cons.1 ((h x).1 (List.mem_cons_of_mem _ hx)) with e | e
        · omega
        · exact e
      · intro hx
        have h1 := hm1.1 x hx
        rcases List.mem_cons.1 ((h x).2 (List.mem_cons_of_mem _ hx)) with e | e
        · omega
        · exact e
    rw [this]
theorem N9 {L : List aW} (h : vP L) : (L.map (·.id)).Pairwise (· < ·) := List.pairwise_map.2 h
theorem Sv {L : List aW} (h : vP L) {ks : List Int} (hk : ks.Pairwise (· < ·)) (hm : ∀ x, x ∈ ks ↔ idx L x ≠ none) : ks = L.map (·.id) := by
  refine Oj hk (N9 h) fun x => ?_
  rw [hm]
  constructor
  · intro hx
    cases hi : idx L x with
    | none => exact absurd hi hx
    | some f => exact List.mem_map.2 ⟨f, kI hi⟩
  · intro hx
    obtain ⟨f, h1, h2⟩ := List.mem_map.1 hx
    rw [<- h2, qO h h1]; simp
theorem afk {L : List aW} (h : vP L) (o : fG) : vP (ow L o).2 := by
  unfold ow
  repeat' split
  all_goals first | exact h | exact zW h _ | exact Au h _ | exact zW (Au h _) _
def Ew (k : Nat) (o : Nat -> fG) : Bool := decide (k <= 100 /\ ∀ i, i < k -> yY (o i) = true)
def jH (f : aW) (o : fG) : fG := if mD f o ≠ 0 then ⟨o.kd, o.id, eG, 0, 0, 0, 0, 0⟩ else if o.kd = 3 then ⟨o.kd, o.id, eG, f.x, f.y, f.r, 0, 0⟩ else if o.kd = 4 then ⟨o.kd, o.id, eG, 0, 0, 0, f.d, 0⟩ else ⟨o.kd, o.id, eG, 0, 0, 0, 0, f.s⟩
def gu (f : aW) (o : fG) : aW := if mD f o ≠ 0 then f else mR f o
theorem V3 {f : aW} {o : fG} (h : (o.kd = 3 /\ ((f.kd = 3 \/ f.kd = 6) \/ f.kd = 4 /\ o.r ≠ 0)) \/ (o.kd = 4 /\ (f.kd = 4 \/ f.kd = 6))) : mD f o = 12 /\ gu f o = f /\ jH f o = ⟨o.kd, o.id, eG, 0, 0, 0, 0, 0⟩ := by
  have e : mD f o = 12 := by unfold mD; rw [if_pos h]
  exact ⟨e, by unfold gu; rw [if_pos (by omega)], by unfold jH; rw [if_pos (by omega)]⟩
theorem uQ {f : aW} {o : fG} (h : ¬ ((o.kd = 3 /\ ((f.kd = 3 \/ f.kd = 6) \/ f.kd = 4 /\ o.r ≠ 0)) \/ (o.kd = 4 /\ (f.kd = 4 \/ f.kd = 6)))) : mD f o = 0 /\ gu f o = mR f o := by
  have e : mD f o = 0 := by unfold mD; rw [if_neg h]
  exact ⟨e, by unfold gu; rw [if_neg (by omega)]⟩
theorem Zc {f : aW} {o : fG} (he : mD f o = 0) (h : o.kd = 3) : mR f o = { f with x := o.x, y := o.y, r := o.r } /\ jH f o = ⟨o.kd, o.id, eG, f.x, f.y, f.r, 0, 0⟩ := ⟨by unfold mR; rw [if_pos h], by unfold jH; rw [if_neg (by omega), if_pos h]⟩
theorem ZM {f : aW} {o : fG} (he : mD f o = 0) (h : o.kd = 4) : mR f o = { f with d := o.d } /\ jH f o = ⟨o.kd, o.id, eG, 0, 0, 0, f.d, 0⟩ := ⟨by unfold mR; rw [if_neg (by omega), if_pos h], by unfold jH; rw [if_neg (by omega), if_neg (by omega), if_pos h]⟩
theorem U0 {f : aW} {o : fG} (he : mD f o = 0) (h : o.kd = 5) : mR f o = { f with s := o.s } /\ jH f o = ⟨o.kd, o.id, eG, 0, 0, 0, 0, f.s⟩ := ⟨by unfold mR; rw [if_neg (by omega), if_neg (by omega), if_pos h], by unfold jH; rw [if_neg (by omega), if_neg (by omega), if_neg (by omega)]⟩
theorem Hl (f : aW) (ho : f.Ok) : aA Tryz.prog 227 [.agg [.g (.int .i64 (f.id)), .g (.int .i64 (f.kd)), .g (.int .i64 (f.x)), .g (.int .i64 (f.y)), .g (.int .i64 (f.r)), .lst 2 f.n (eX f.P), .g (.int .i64 (f.d)), .g (.int .i64 (f.s)), .lst 6 f.m (eX f.S)]] (.t (.one (.g (.bool (decide (f.kd = 3 \/ f.kd = 6)))))) := by
  refine ak Tryz.func227 rfl (by rw [Tryz.ntmps227]; simp) ?_
  simp only [Tryz.ntmps227, zM, PT.tv, au, Nat.zero_add, Nat.reduceAdd]
  repeat' (first
 | ((with_reducible show AW _ _ _ _); first
 | (with_reducible first | refine aS (fun K hK => ?_) | refine aT ?_)
 | (first
 | (with_reducible first | refine aP 0 [0] ?_ | refine aP 1 [1] ?_)))
 | (((with_reducible refine And.intro ?_ ?_)); focus ((simp; done)))
 | (with_reducible refine aK ?_)
 | ((fail_if_success (with_reducible show AW _ _ _ _)); simp (maxSteps := 2000000) only [go_sem, reduceIte, reduceCtorEq, xA, xL, xD, xE, xM, xS, xB, Tryz.f227])
 | ((with_reducible refine hK _ ?_); clear hK K))
  all_goals ((try refine Bool.eq_iff_iff.2 ?_); (simp only [Bool.and_eq_true, Bool.or_eq_true, Bool.not_eq_true', decide_eq_true_eq, decide_eq_false_iff_not, bne_iff_ne, beq_iff_eq, ne_eq, ge_iff_le, gt_iff_lt, cond_eq_ite, iff_self, eq_self]; done))
theorem Qn (f : aW) (o : fG) (ho : f.Ok) (ho2 : o.f.Ok) (hk : o.kd = 3) : aA Tryz.prog 207 [.agg [.g (.int .i64 (f.id)), .g (.int .i64 (f.kd)), .g (.int .i64 (f.x)), .g (.int .i64 (f.y)), .g (.int .i64 (f.r)), .lst 2 f.n (eX f.P), .g (.int .i64 (f.d)), .g (.int .i64 (f.s)), .lst 6 f.m (eX f.S)], .agg [.g (.int .i64 (o.kd)), .g (.int .i64 (o.id)), .g (.int .i64 (o.f.id)), .g (.int .i64 (o.f.kd)), .g (.int .i64 (o.f.x)), .g (.int .i64 (o.f.y)), .g (.int .i64 (o.f.r)), .lst 2 o.f.n (eX o.f.P), .g (.int .i64 (o.f.d)), .g (.int .i64 (o.f.s)), .lst 6 o.f.m (eX o.f.S), .g (.int .i64 (o.x)), .g (.int .i64 (o.y)), .g (.int .i64 (o.r)), .g (.int .i64 (o.d)), .g (.int .i64 (o.s))]] (.tup [.agg [.g (.int .i64 ((gu f o).id)), .g (.int .i64 ((gu f o).kd)), .g (.int .i64 ((gu f o).x)), .g (.int .i64 ((gu f o).y)), .g (.int .i64 ((gu f o).r)), .lst 2 (gu f o).n (eX (gu f o).P), .g (.int .i64 ((gu f o).d)), .g (.int .i64 ((gu f o).s)), .lst 6 (gu f o).m (eX (gu f o).S)], .agg [.g (.int .i64 ((jH f o).kd)), .g (.int .i64 ((jH f o).id)), .g (.int .i64 ((jH f o).f.id)), .g (.int .i64 ((jH f o).f.kd)), .g (.int .i64 ((jH f o).f.x)), .g (.int .i64 ((jH f o).f.y)), .g (.int .i64 ((jH f o).f.r)), .lst 2 (jH f o).f.n (eX (jH f o).f.P), .g (.int .i64 ((jH f o).f.d)), .g (.int .i64 ((jH f o).f.s)), .lst 6 (jH f o).f.m (eX (jH f o).f.S), .g (.int .i64 ((jH f o).x)), .g (.int .i64 ((jH f o).y)), .g (.int .i64 ((jH f o).r)), .g (.int .i64 ((jH f o).d)), .g (.int .i64 ((jH f o).s))], .one (.g (.int .i64 (mD f o)))]) := by
  refine ak Tryz.func207 rfl (by rw [Tryz.ntmps207]; simp) ?_
  simp only [Tryz.ntmps207, zM, PT.tv, au, Nat.zero_add, Nat.reduceAdd]
  repeat' (first
 | ((with_reducible show AW _ _ _ _); first
 | (with_reducible first | refine aS (fun K hK => ?_) | refine aI ?_ | refine aT ?_ | refine aC ?_ | refine aB ?_)
 | (first
 | (with_reducible first | refine aP 0 [0,1] ?_ | refine aP 1 [2,3,4,5] ?_ | refine aP 2 [2,3,4,5,7] ?_)
 | (with_reducible first | refine aP 4 [2,3,4,5,7,8] ?_ | refine aP 5 [2,3,4,5,7,8] ?_)
 | ((with_reducible refine aR (c := Code.region 6 _ true) [2,4,5,7] ?_); (with_reducible refine aD ?_ ?_ ?_ ?_); (focus kernel_rfl); (focus kernel_rfl); (focus kernel_rfl))
 | (with_reducible refine aP 7 [2,3,4,5,7] ?_)
 | ((with_reducible refine aR (c := Code.region 8 _ true) [2,3,4,5,7] ?_); (with_reducible refine aD ?_ ?_ ?_ ?_); (focus kernel_rfl); (focus kernel_rfl); (focus kernel_rfl))
 | ((with_reducible refine aR (c := Code.region 9 _ true) [2,3,4,5,7] ?_); (with_reducible refine aD ?_ ?_ ?_ ?_); (focus kernel_rfl); (focus kernel_rfl); (focus kernel_rfl))
 | ((with_reducible refine aR (c := Code.region 12 _ true) [2,4,5,7] ?_); (with_reducible refine aD ?_ ?_ ?_ ?_); (focus kernel_rfl); (focus kernel_rfl); (focus kernel_rfl))))
 | ((first | (with_reducible refine And.intro ?_ ?_) | (with_reducible refine Need.mk ?_)); focus (first | (intro _; (with_reducible assumption)) | (simp; omega)))
 | (with_reducible refine aK ?_)
 | ((with_reducible show bL _ _ _ _ _ _); first
 | ((with_reducible refine aN ?_ ?_) <;> (intro hc; (try simp only [zB, zC, reduceCtorEq] at hc); (try (exfalso; first | contradiction | omega)))))
 | ((with_reducible refine And.intro ?_ ?_); focus ((with_reducible show iL _ _ _ = true); kernel_rfl))
 | ((with_reducible show bM _ _ _ _ _ _ _ _ _ _); first
 | (refine aV (k := 227) vG (fun hg => Hl f ho) ?_ ?_))
 | ((fail_if_success (with_reducible show AW _ _ _ _)); simp (maxSteps := 2000000) only [go_sem, reduceIte, reduceCtorEq, xA, xL, xD, xE, xM, xS, xB, Tryz.f207])
 | ((with_reducible refine hK _ ?_); clear hK K))
  all_goals first
    | (have e := V3 (f := f) (o := o) (by omega); rw [e.1, e.2.1, e.2.2]; repeat' (first | exact rfl | (with_reducible refine And.intro ?_ ?_) | (intro i q hi hq; exact IV.bn _)))
    | (have e0 := uQ (f := f) (o := o) (by omega); have e := Zc e0.1 (by omega); rw [e0.1, e0.2, e.1, e.2]; repeat' (first | exact rfl | (with_reducible refine And.intro ?_ ?_) | (intro i q hi hq; exact IV.bn _)))
    | (have e0 := uQ (f := f) (o := o) (by omega); have e := ZM e0.1 (by omega); rw [e0.1, e0.2, e.1, e.2]; repeat' (exact rfl))
    | (have e0 := uQ (f := f) (o := o) (by omega); have e := U0 e0.1 (by omega); rw [e0.1, e0.2, e.1, e.2]; repeat' (exact rfl))
    | skip
theorem Ta (f : aW) (o : fG) (ho : f.Ok) (ho2 : o.f.Ok) (hk : o.kd = 4) : aA Tryz.prog 207 [.agg [.g (.int .i64 (f.id)), .g (.int .i64 (f.kd)), .g (.int .i64 (f.x)), .g (.int .i64 (f.y)), .g (.int .i64 (f.r)), .lst 2 f.n (eX f.P), .g (.int .i64 (f.d)), .g (.int .i64 (f.s)), .lst 6 f.m (eX f.S)], .agg [.g (.int .i64 (o.kd)), .g (.int .i64 (o.id)), .g (.int .i64 (o.f.id)), .g (.int .i64 (o.f.kd)), .g (.int .i64 (o.f.x)), .g (.int .i64 (o.f.y)), .g (.int .i64 (o.f.r)), .lst 2 o.f.n (eX o.f.P), .g (.int .i64 (o.f.d)), .g (.int .i64 (o.f.s)), .lst 6 o.f.m (eX o.f.S), .g (.int .i64 (o.x)), .g (.int .i64 (o.y)), .g (.int .i64 (o.r)), .g (.int .i64 (o.d)), .g (.int .i64 (o.s))]] (.tup [.agg [.g (.int .i64 ((gu f o).id)), .g (.int .i64 ((gu f o).kd)), .g (.int .i64 ((gu f o).x)), .g (.int .i64 ((gu f o).y)), .g (.int .i64 ((gu f o).r)), .lst 2 (gu f o).n (eX (gu f o).P), .g (.int .i64 ((gu f o).d)), .g (.int .i64 ((gu f o).s)), .lst 6 (gu f o).m (eX (gu f o).S)], .agg [.g (.int .i64 ((jH f o).kd)), .g (.int .i64 ((jH f o).id)), .g (.int .i64 ((jH f o).f.id)), .g (.int .i64 ((jH f o).f.kd)), .g (.int .i64 ((jH f o).f.x)), .g (.int .i64 ((jH f o).f.y)), .g (.int .i64 ((jH f o).f.r)), .lst 2 (jH f o).f.n (eX (jH f o).f.P), .g (.int .i64 ((jH f o).f.d)), .g (.int .i64 ((jH f o).f.s)), .lst 6 (jH f o).f.m (eX (jH f o).f.S), .g (.int .i64 ((jH f o).x)), .g (.int .i64 ((jH f o).y)), .g (.int .i64 ((jH f o).r)), .g (.int .i64 ((jH f o).d)), .g (.int .i64 ((jH f o).s))], .one (.g (.int .i64 (mD f o)))]) := by
  refine ak Tryz.func207 rfl (by rw [Tryz.ntmps207]; simp) ?_
  simp only [Tryz.ntmps207, zM, PT.tv, au, Nat.zero_add, Nat.reduceAdd]
  repeat' (first
 | ((with_reducible show AW _ _ _ _); first
 | (with_reducible first | refine aS (fun K hK => ?_) | refine aT ?_ | refine aC ?_ | refine aB ?_)
 | (first
 | (with_reducible first | refine aP 0 [0,1] ?_ | refine aP 1 [2,3,4,5] ?_ | refine aP 2 [2,3,4,5,7] ?_)
 | (with_reducible first | refine aP 4 [2,3,4,5,7,8] ?_ | refine aP 5 [2,3,4,5,7,8] ?_)
 | ((with_reducible refine aR (c := Code.region 6 _ true) [2,4,5,7] ?_); (with_reducible refine aD ?_ ?_ ?_ ?_); (focus kernel_rfl); (focus kernel_rfl); (focus kernel_rfl))
 | (with_reducible refine aP 7 [2,3,4,5,7] ?_)
 | (with_reducible refine aP 10 [2,3,4,5,7] ?_)
 | ((with_reducible refine aR (c := Code.region 11 _ true) [2,3,4,5,7] ?_); (with_reducible refine aD ?_ ?_ ?_ ?_); (focus kernel_rfl); (focus kernel_rfl); (focus kernel_rfl))
 | ((with_reducible refine aR (c := Code.region 12 _ true) [2,4,5,7] ?_); (with_reducible refine aD ?_ ?_ ?_ ?_); (focus kernel_rfl); (focus kernel_rfl); (focus kernel_rfl))))
 | ((first | (with_reducible refine And.intro ?_ ?_) | (with_reducible refine Need.mk ?_)); focus (first | (intro _; (with_reducible assumption)) | (simp; omega)))
 | (with_reducible refine aK ?_)
 | ((with_reducible show bL _ _ _ _ _ _); first
 | ((with_reducible refine aN ?_ ?_) <;> (intro hc; (try simp only [zB, zC, reduceCtorEq] at hc); (try (exfalso; first | contradiction | omega)))))
 | ((with_reducible refine And.intro ?_ ?_); focus ((with_reducible show iL _ _ _ = true); kernel_rfl))
 | ((with_reducible show bM _ _ _ _ _ _ _ _ _ _); first
 | (refine aV (k := 227) vG (fun hg => Hl f ho) ?_ ?_))
 | ((fail_if_success (with_reducible show AW _ _ _ _)); simp (maxSteps := 2000000) only [go_sem, reduceIte, reduceCtorEq, xA, xL, xD, xE, xM, xS, xB, Tryz.f207])
 | ((with_reducible refine hK _ ?_); clear hK K))
  all_goals first
    | (have e := V3 (f := f) (o := o) (by omega); rw [e.1, e.2.1, e.2.2]; repeat' (first | exact rfl | (with_reducible refine And.intro ?_ ?_) | (intro i q hi hq; exact IV.bn _)))
    | (have e0 := uQ (f := f) (o := o) (by omega); have e := Zc e0.1 (by omega); rw [e0.1, e0.2, e.1, e.2]; repeat' (exact rfl))
    | (have e0 := uQ (f := f) (o := o) (by omega); have e := ZM e0.1 (by omega); rw [e0.1, e0.2, e.1, e.2]; repeat' (first | exact rfl | (with_reducible refine And.intro ?_ ?_) | (intro i q hi hq; exact IV.bn _)))
    | (have e0 := uQ (f := f) (o := o) (by omega); have e := U0 e0.1 (by omega); rw [e0.1, e0.2, e.1, e.2]; repeat' (exact rfl))
    | skip
theorem TF (f : aW) (o : fG) (ho : f.Ok) (ho2 : o.f.Ok) (hk : o.kd = 5) : aA Tryz.prog 207 [.agg [.g (.int .i64 (f.id)), .g (.int .i64 (f.kd)), .g (.int .i64 (f.x)), .g (.int .i64 (f.y)), .g (.int .i64 (f.r)), .lst 2 f.n (eX f.P), .g (.int .i64 (f.d)), .g (.int .i64 (f.s)), .lst 6 f.m (eX f.S)], .agg [.g (.int .i64 (o.kd)), .g (.int .i64 (o.id)), .g (.int .i64 (o.f.id)), .g (.int .i64 (o.f.kd)), .g (.int .i64 (o.f.x)), .g (.int .i64 (o.f.y)), .g (.int .i64 (o.f.r)), .lst 2 o.f.n (eX o.f.P), .g (.int .i64 (o.f.d)), .g (.int .i64 (o.f.s)), .lst 6 o.f.m (eX o.f.S), .g (.int .i64 (o.x)), .g (.int .i64 (o.y)), .g (.int .i64 (o.r)), .g (.int .i64 (o.d)), .g (.int .i64 (o.s))]] (.tup [.agg [.g (.int .i64 ((gu f o).id)), .g (.int .i64 ((gu f o).kd)), .g (.int .i64 ((gu f o).x)), .g (.int .i64 ((gu f o).y)), .g (.int .i64 ((gu f o).r)), .lst 2 (gu f o).n (eX (gu f o).P), .g (.int .i64 ((gu f o).d)), .g (.int .i64 ((gu f o).s)), .lst 6 (gu f o).m (eX (gu f o).S)], .agg [.g (.int .i64 ((jH f o).kd)), .g (.int .i64 ((jH f o).id)), .g (.int .i64 ((jH f o).f.id)), .g (.int .i64 ((jH f o).f.kd)), .g (.int .i64 ((jH f o).f.x)), .g (.int .i64 ((jH f o).f.y)), .g (.int .i64 ((jH f o).f.r)), .lst 2 (jH f o).f.n (eX (jH f o).f.P), .g (.int .i64 ((jH f o).f.d)), .g (.int .i64 ((jH f o).f.s)), .lst 6 (jH f o).f.m (eX (jH f o).f.S), .g (.int .i64 ((jH f o).x)), .g (.int .i64 ((jH f o).y)), .g (.int .i64 ((jH f o).r)), .g (.int .i64 ((jH f o).d)), .g (.int .i64 ((jH f o).s))], .one (.g (.int .i64 (mD f o)))]) := by
  refine ak Tryz.func207 rfl (by rw [Tryz.ntmps207]; simp) ?_
  simp only [Tryz.ntmps207, zM, PT.tv, au, Nat.zero_add, Nat.reduceAdd]
  repeat' (first
 | ((with_reducible show AW _ _ _ _); first
 | (with_reducible first | refine aS (fun K hK => ?_) | refine aT ?_ | refine aC ?_ | refine aB ?_)
 | (first
 | (with_reducible first | refine aP 0 [0,1] ?_ | refine aP 1 [2,3,4,5] ?_ | refine aP 2 [2,3,4,5,7] ?_)
 | ((with_reducible refine aR (c := Code.region 3 _ true) [2,3,4,5,7] ?_); (with_reducible refine aD ?_ ?_ ?_ ?_); (focus kernel_rfl); (focus kernel_rfl); (focus kernel_rfl))
 | (with_reducible first | refine aP 4 [2,3,4,5,7,8] ?_ | refine aP 5 [2,3,4,5,7,8] ?_)
 | (with_reducible refine aP 7 [2,3,4,5,7] ?_)
 | (with_reducible refine aP 10 [2,3,4,5,7] ?_)
 | ((with_reducible refine aR (c := Code.region 12 _ true) [2,4,5,7] ?_); (with_reducible refine aD ?_ ?_ ?_ ?_); (focus kernel_rfl); (focus kernel_rfl); (focus kernel_rfl))))
 | ((first | (with_reducible refine And.intro ?_ ?_) | (with_reducible refine Need.mk ?_)); focus (first | (intro _; (with_reducible assumption)) | (simp; omega)))
 | (with_reducible refine aK ?_)
 | ((with_reducible show bL _ _ _ _ _ _); first
 | ((with_reducible refine aN ?_ ?_) <;> (intro hc; (try simp only [zB, zC, reduceCtorEq] at hc); (try (exfalso; omega)))))
 | ((with_reducible refine And.intro ?_ ?_); focus ((with_reducible show iL _ _ _ = true); kernel_rfl))
 | ((with_reducible show bM _ _ _ _ _ _ _ _ _ _); first
 | (refine aV (k := 227) vG (fun hg => Hl f ho) ?_ ?_))
 | ((fail_if_success (with_reducible show AW _ _ _ _)); simp (maxSteps := 2000000) only [go_sem, reduceIte, reduceCtorEq, xA, xL, xD, xE, xM, xS, xB, Tryz.f207])
 | ((with_reducible refine hK _ ?_); clear hK K))
  all_goals first
    | (have e := V3 (f := f) (o := o) (by omega); rw [e.1, e.2.1, e.2.2]; repeat' (exact rfl))
    | (have e0 := uQ (f := f) (o := o) (by omega); have e := Zc e0.1 (by omega); rw [e0.1, e0.2, e.1, e.2]; repeat' (exact rfl))
    | (have e0 := uQ (f := f) (o := o) (by omega); have e := ZM e0.1 (by omega); rw [e0.1, e0.2, e.1, e.2]; repeat' (exact rfl))
    | (have e0 := uQ (f := f) (o := o) (by omega); have e := U0 e0.1 (by omega); rw [e0.1, e0.2, e.1, e.2]; repeat' (first | exact rfl | (with_reducible refine And.intro ?_ ?_) | (intro i q hi hq; exact IV.bn _)))
    | skip
theorem aoy (o : fG) (ho : o.f.Ok) : aA Tryz.prog 175 [.agg [.g (.int .i64 (o.kd)), .g (.int .i64 (o.id)), .g (.int .i64 (o.f.id)), .g (.int .i64 (o.f.kd)), .g (.int .i64 (o.f.x)), .g (.int .i64 (o.f.y)), .g (.int .i64 (o.f.r)), .lst 2 o.f.n (eX o.f.P), .g (.int .i64 (o.f.d)), .g (.int .i64 (o.f.s)), .lst 6 o.f.m (eX o.f.S), .g (.int .i64 (o.x)), .g (.int .i64 (o.y)), .g (.int .i64 (o.r)), .g (.int .i64 (o.d)), .g (.int .i64 (o.s))]] (.t (.one (.g (.bool (yY o))))) := by
  refine ak Tryz.func175 rfl (by rw [Tryz.ntmps175]; simp) ?_
  simp only [Tryz.ntmps175, zM, PT.tv, au, Nat.zero_add, Nat.reduceAdd]
  repeat' (first
 | ((with_reducible show AW _ _ _ _); first
 | (with_reducible first | refine aS (fun K hK => ?_) | refine aT ?_)
 | (first
 | (with_reducible first | refine aP 0 [0] ?_ | refine aP 1 [1] ?_)))
 | (((with_reducible refine Need.mk ?_)); focus (exact True.intro))
 | (with_reducible refine aK ?_)
 | ((with_reducible show aZ _ _ _ _ _ _ _ _ _ _); first
 | (refine aG (k := 107) DR (alX _ ho) ?_ ?_))
 | ((fail_if_success (with_reducible show AW _ _ _ _)); simp (maxSteps := 2000000) only [go_sem, reduceIte, reduceCtorEq, xA, xL, xD, xE, xM, xS, xB, Tryz.f175])
 | ((with_reducible refine hK _ ?_); clear hK K))
theorem ajG (o : fG) (ho : o.f.Ok) : aA Tryz.prog 174 [.agg [.g (.int .i64 (o.kd)), .g (.int .i64 (o.id)), .g (.int .i64 (o.f.id)), .g (.int .i64 (o.f.kd)), .g (.int .i64 (o.f.x)), .g (.int .i64 (o.f.y)), .g (.int .i64 (o.f.r)), .lst 2 o.f.n (eX o.f.P), .g (.int .i64 (o.f.d)), .g (.int .i64 (o.f.s)), .lst 6 o.f.m (eX o.f.S), .g (.int .i64 (o.x)), .g (.int .i64 (o.y)), .g (.int .i64 (o.r)), .g (.int .i64 (o.d)), .g (.int .i64 (o.s))]] (.t (.one (.g (.bool (!yY o))))) := by
  refine ak Tryz.func174 rfl (by rw [Tryz.ntmps174]; simp) ?_
  simp only [Tryz.ntmps174, zM, PT.tv, au, Nat.zero_add, Nat.reduceAdd]
  repeat' (first
 | ((with_reducible show AW _ _ _ _); first
 | (with_reducible first | refine aS (fun K hK => ?_) | refine aT ?_)
 | (first
 | (with_reducible first | refine aP 0 [0] ?_ | refine aP 1 [1] ?_)))
 | (((with_reducible refine Need.mk ?_)); focus (exact True.intro))
 | (with_reducible refine aK ?_)
 | ((with_reducible show aZ _ _ _ _ _ _ _ _ _ _); first
 | (refine aG (k := 175) JA (aoy _ ho) ?_ ?_))
 | ((fail_if_success (with_reducible show AW _ _ _ _)); simp (maxSteps := 2000000) only [go_sem, reduceIte, reduceCtorEq, xA, xL, xD, xE, xM, xS, xB, Tryz.f174])
 | ((with_reducible refine hK _ ?_); clear hK K))
theorem RQ {P : Program} {gs : List (Option Nat)} {d : Option Tmp} {op : UnOp} {t : TypeId} {x : Operand} {ty : TypeId} {pos : String} {aft : Array Edge} {g : Option (Nat × Bool)} {os : List Oper} {s : AS} {K : AS -> Prop} (h : fT P gs os (s.put d .any) K) :
    xC P gs false ⟨d, .unOp op t x, ty, pos, aft, g⟩ os s K := by
  refine Or.inr ?_
  exact ⟨fun h => (by cases h), fun _ => h⟩
theorem ZE (k : Nat) (o : Nat -> fG) (hk : k <= 9223372036854775807) (ho : ∀ i, i < k -> (o i).f.Ok) (hd : decide ((k : Int) <= 100) = true) : aA Tryz.prog 148 [.one (.lst 16 k (jq o))] (.t (.one (.g (.bool (Ew k o))))) := by
  have hd2 : k <= 100 := (by have := of_decide_eq_true hd; omega)
  refine ak Tryz.func148 rfl (by rw [Tryz.ntmps148]; simp) ?_
  simp only [Tryz.ntmps148, zM, PT.tv, au, Nat.zero_add, Nat.reduceAdd]
  repeat' (first
 | ((with_reducible show AW _ _ _ _); first
 | (with_reducible first | refine aS (fun K hK => ?_) | refine aI ?_ | refine aX ?_ | refine aT ?_ | refine aC ?_ | refine aB ?_)
 | (first
 | (with_reducible first | refine aP 0 [0,1] ?_ | refine aP (ops := #[⟨some 3, _, _, _, _, _⟩, _, _, _, _, _, _, _, _]) 1 [0] ?_ | refine aP (ops := #[⟨some 5, _, _, _, _, _⟩, _, _, _, _]) 1 [0,1] ?_ | refine aP (ops := #[⟨some 6, _, _, _, _, _⟩, _, _]) 1 [0,1] ?_ | refine aP 2 [0,1,7,8] ?_ | refine aP 3 [0,1,7,8] ?_ | refine aP 4 [0,1,5,7,8] ?_ | refine aP 5 [5] ?_ | refine aP 6 [0,1,7,8] ?_ | refine aP 7 [] ?_))
 | ((with_reducible show AW _ (Code.loop _) _ _); first
 | ((with_reducible refine aL (c := (Code.seq (Code.region 2 _ _) _)) (ι := Nat) [0,1,7] (fun j => [(8, iA .i64 (j : Int))]) (fun j => []) (fun j => j <= k /\ (∀ j', j' < j -> yY (o j') = true)) (fun j => k - j) 0 ?lg2 ?l12 ?l22 ?li2 ?lr2); (case' lg2 => rintro j _); (case' li2 => try (exact ⟨Nat.zero_le _, fun i hi => absurd hi (Nat.not_lt_zero _)⟩)); (case' lr2 => rintro j ⟨hj, haj⟩ KR hR2; simp only [bG, dL, hset, lk, if_true, if_false, xE, reduceIte, zN, hd]))))
 | ((first | (with_reducible refine And.intro ?_ ?_) | (with_reducible refine Need.mk ?_)); focus (first | exact True.intro | omega))
 | (with_reducible refine aK ?_)
 | ((with_reducible show bL _ _ _ _ _ _); first
 | ((with_reducible refine aN ?_ ?_) <;> (intro hc; (try simp only [zB, zC, reduceCtorEq] at hc); (try (exfalso; contradiction)))))
 | ((with_reducible show aZ _ _ _ _ _ _ _ _ _ _); first
 | (refine aG (k := 174) ZW (ajG _ (ho _ (by omega))) ?_ ?_)
 | ((refine bW (k := 105) Tryz.func105 rfl D7 (by rw [Tryz.ntmps105]; simp) ?_ ?_ (fun K hK => ?_)); (focus (exact True.intro)); (focus ((simp [iZ]; done))); simp only [Tryz.ntmps105, List.map_cons, List.map_nil, List.nil_append, List.cons_append, List.append_nil, LV.tv, au, Nat.zero_add, Nat.reduceAdd])
 | ((refine bW (k := 142) Tryz.func142 rfl AQ (by rw [Tryz.ntmps142]; simp) ?_ ?_ (fun K hK => ?_)); (focus (exact True.intro)); (focus ((simp [iZ]; done))); simp only [Tryz.ntmps142, List.map_cons, List.map_nil, List.nil_append, List.cons_append, List.append_nil, LV.tv, au, Nat.zero_add, Nat.reduceAdd]))
 | ((with_reducible show bM _ _ _ _ _ _ _ _ _ _); ((refine nP (k := 105) ?_ ?_) <;> (intro hc; (try simp only [zB, zC, reduceCtorEq] at hc); (try (exfalso; contradiction)))))
 | ((with_reducible refine hR2 _ (j + 1) ?_); (try clear hR2 KR))
 | ((with_reducible refine Told.mk ?_); simp only [go_sem, reduceIte, reduceCtorEq, xA, xL, xD, xE, xM, xS, xB, hd] <;> ((((try simp (disch := omega) only [aY, Int.natCast_add, Int.cast_ofNat_Int, and_true, true_and, and_self]); (repeat' (first | omega | (with_reducible refine And.intro ?_ ?_) | (exact all_succ (by assumption) (by assumption)) )); done))))
 | ((fail_if_success (with_reducible show AW _ _ _ _)); simp (maxSteps := 2000000) only [go_sem, reduceIte, reduceCtorEq, xA, xL, xD, xE, xM, xS, xB, Tryz.f148, Tryz.f105, Tryz.f142, hd])
 | ((with_reducible refine hK _ ?_); clear hK K)
 | (with_reducible apply_assumption -exfalso only [*]))
  all_goals first
    | (refine Eq.trans ?_ (decide_eq_false (fun g => by have := g.2 j (by omega); simp_all)).symm; have h0 : (j : Int) >= 0 := (by omega); simp [h0]; done)
    | (refine Eq.trans ?_ (decide_eq_true ⟨hd2, fun i hi => haj i (by omega)⟩).symm; simp; done)
    | skip
theorem XB (k : Nat) (o : Nat -> fG) (hk : k <= 9223372036854775807) (ho : ∀ i, i < k -> (o i).f.Ok) (hd : decide ((k : Int) <= 100) = false) : aA Tryz.prog 148 [.one (.lst 16 k (jq o))] (.t (.one (.g (.bool (Ew k o))))) := by
  refine ak Tryz.func148 rfl (by rw [Tryz.ntmps148]; simp) ?_
  simp only [Tryz.ntmps148, zM, PT.tv, au, Nat.zero_add, Nat.reduceAdd]
  repeat' (first
 | (refine RQ ?_)
 | ((with_reducible show AW _ _ _ _); first
 | (with_reducible first | refine aS (fun K hK => ?_) | refine aT ?_)
 | (first
 | (with_reducible first | refine aP 0 [0] ?_ | refine aP 1 [0] ?_)))
 | (with_reducible refine aK ?_)
 | ((with_reducible show bM _ _ _ _ _ _ _ _ _ _); first
 | ((refine nP (k := 105) ?_ ?_) <;> (intro hc; (try simp only [zB, zC, reduceCtorEq] at hc); (try (exfalso; contradiction)))))
 | ((fail_if_success (with_reducible show AW _ _ _ _)); simp (maxSteps := 2000000) only [go_sem, reduceIte, reduceCtorEq, xA, xL, xD, xE, xM, xS, xB, Tryz.f148, hd])
 | ((with_reducible refine hK _ ?_); clear hK K))
  all_goals first | exact (decide_eq_false fun g => by have := of_decide_eq_false hd; omega).symm | skip
theorem CW (k : Nat) (o : Nat -> fG) (hk : k <= 9223372036854775807) (ho : ∀ i, i < k -> (o i).f.Ok) : aA Tryz.prog 148 [.one (.lst 16 k (jq o))] (.t (.one (.g (.bool (Ew k o))))) := by
  cases hd : decide ((k : Int) <= 100) with
  | true => exact ZE k o hk ho hd
  | false => exact XB k o hk ho hd
end Go.Proofs.YtcfechepbamhkaaGreat
namespace Go.Proofs
open Go.Shelf
def Tryz.IC : Go.Shelf.Ren := ⟨fun | 189 => 121 | 125 => 159 | 257 => 158 | 128 => 195 | 129 => 196 | 294 => 187 | 295 => 188 | 296 => 189 | 297 => 190 | 298 => 191 | 299 => 192 | 216 => 137 | 300 => 193 | 301 => 194 | 328 => 215 | 329 => 216 | 330 => 217 | 331 => 218 | 332 => 219 | 215 => 172 | 343 => 235 | n => n, fun | 28 => 36 | 3 => 3 | 46 => 167 | 0 => 0 | 51 => 205 | 53 => 207 | 4 => 4 | 183 => 199 | 182 => 198 | 131 => 133 | 5 => 5 | 9 => 9 | 218 => 224 | 222 => 228 | 228 => 243 | 229 => 244 | n => n, fun | n => n⟩
theorem Tryz.Oe : Go.Proofs.Lays.n189 Tryz.prog Tryz.IC := {
  mixed := by kernel_rfl
  f125 := Tryz.func159.trans (congrArg some (by kernel_rfl))
  f128 := Tryz.func195.trans (congrArg some (by kernel_rfl))
  f129 := Tryz.func196.trans (congrArg some (by kernel_rfl))
  f189 := Tryz.func121.trans (congrArg some (by kernel_rfl))
  f215 := Tryz.func172.trans (congrArg some (by kernel_rfl))
  f216 := Tryz.func137.trans (congrArg some (by kernel_rfl))
  f257 := Tryz.func158.trans (congrArg some (by kernel_rfl))
  f294 := Tryz.func187.trans (congrArg some (by kernel_rfl))
  f295 := Tryz.func188.trans (congrArg some (by kernel_rfl))
  f296 := Tryz.func189.trans (congrArg some (by kernel_rfl))
  f297 := Tryz.func190.trans (congrArg some (by kernel_rfl))
  f298 := Tryz.func191.trans (congrArg some (by kernel_rfl))
  f299 := Tryz.func192.trans (congrArg some (by kernel_rfl))
  f300 := Tryz.func193.trans (congrArg some (by kernel_rfl))
  f301 := Tryz.func194.trans (congrArg some (by kernel_rfl))
  f328 := Tryz.func215.trans (congrArg some (by kernel_rfl))
  f329 := Tryz.func216.trans (congrArg some (by kernel_rfl))
  f330 := Tryz.func217.trans (congrArg some (by kernel_rfl))
  f331 := Tryz.func218.trans (congrArg some (by kernel_rfl))
  f332 := Tryz.func219.trans (congrArg some (by kernel_rfl))
  f343 := Tryz.func235.trans (congrArg some (by kernel_rfl))
  t0 := Tryz.underlying0
  a0 := Tryz.isAgg0
  z0 := Tryz.sizeOf0
  v0 := Tryz.zeroValue0
  t3 := Tryz.underlying3
  a3 := Tryz.isAgg3
  z3 := Tryz.sizeOf3
  v3 := Tryz.zeroValue3
  t4 := Tryz.underlying4
  a4 := Tryz.isAgg4
  z4 := Tryz.sizeOf4
  v4 := Tryz.zeroValue4
  t5 := Tryz.underlying5
  a5 := Tryz.isAgg5
  z5 := Tryz.sizeOf5
  v5 := Tryz.zeroValue5
  t9 := Tryz.underlying9
  a9 := Tryz.isAgg9
  z9 := Tryz.sizeOf9
  v9 := Tryz.zeroValue9
  t28 := Tryz.underlying36
  a28 := Tryz.isAgg36
  z28 := Tryz.sizeOf36
  v28 := Tryz.zeroValue36
  t46 := Tryz.underlying167
  a46 := Tryz.isAgg167
  z46 := Tryz.sizeOf167
  v46 := Tryz.zeroValue167
  t51 := Tryz.underlying205
  a51 := Tryz.isAgg205
  z51 := Tryz.sizeOf205
  v51 := Tryz.zeroValue205
  t53 := Tryz.underlying207
  a53 := Tryz.isAgg207
  z53 := Tryz.sizeOf207
  v53 := Tryz.zeroValue207
  t131 := Tryz.underlying133
  a131 := Tryz.isAgg133
  z131 := Tryz.sizeOf133
  v131 := Tryz.zeroValue133
  t182 := Tryz.underlying198
  a182 := Tryz.isAgg198
  z182 := Tryz.sizeOf198
  v182 := Tryz.zeroValue198
  t183 := Tryz.underlying199
  a183 := Tryz.isAgg199
  z183 := Tryz.sizeOf199
  v183 := Tryz.zeroValue199
  t218 := Tryz.underlying224
  a218 := Tryz.isAgg224
  z218 := Tryz.sizeOf224
  v218 := Tryz.zeroValue224
  t222 := Tryz.underlying228
  a222 := Tryz.isAgg228
  z222 := Tryz.sizeOf228
  v222 := Tryz.zeroValue228
  t228 := Tryz.underlying243
  a228 := Tryz.isAgg243
  z228 := Tryz.sizeOf243
  v228 := Tryz.zeroValue243
  t229 := Tryz.underlying244
  a229 := Tryz.isAgg244
  z229 := Tryz.sizeOf244
  v229 := Tryz.zeroValue244 }
open Go.Sort Go.RowKit in
theorem Tryz.slices_Sort_int (blk off cap : Nat) (zs : List Int) (w : World) (hH : Holds (Value.int .i64) w blk off zs.toArray) (hblk : blk < w.heap.size) (hsz : zs.length < 4611686018427387904) :
    Calls Tryz.prog 121 #[.slice (some ⟨blk, off, none⟩) zs.length cap] w fun e w' =>
      e = .returned (.tuple #[]) /\ ∃ n os, w' = grow (putRow (Value.int .i64) (Sort.ahead w n) blk off (zs.mergeSort fun x y => decide (x <= y)).toArray) os := Any.slices_Sort_int Tryz.Oe blk off cap zs w hH hblk hsz
def Tryz.ED : Go.Shelf.Ren := ⟨fun | 25 => 100 | 31 => 137 | 32 => 138 | 37 => 172 | n => n, fun | 22 => 36 | 3 => 3 | 4 => 4 | 40 => 167 | 0 => 0 | n => n, fun | n => n⟩
theorem Tryz.Fj : Go.Proofs.Lays2.n25 Tryz.prog Tryz.ED := {
  mixed := by kernel_rfl
  f25 := Tryz.func100.trans (congrArg some (by kernel_rfl))
  f31 := Tryz.func137.trans (congrArg some (by kernel_rfl))
  f32 := Tryz.func138.trans (congrArg some (by kernel_rfl))
  f37 := Tryz.func172.trans (congrArg some (by kernel_rfl))
  t0 := Tryz.underlying0
  a0 := Tryz.isAgg0
  z0 := Tryz.sizeOf0
  v0 := Tryz.zeroValue0
  t3 := Tryz.underlying3
  a3 := Tryz.isAgg3
  z3 := Tryz.sizeOf3
  v3 := Tryz.zeroValue3
  t4 := Tryz.underlying4
  a4 := Tryz.isAgg4
  z4 := Tryz.sizeOf4
  v4 := Tryz.zeroValue4
  t22 := Tryz.underlying36
  a22 := Tryz.isAgg36
  z22 := Tryz.sizeOf36
  v22 := Tryz.zeroValue36
  t40 := Tryz.underlying167
  a40 := Tryz.isAgg167
  z40 := Tryz.sizeOf167
  v40 := Tryz.zeroValue167 }
open Go.RowKit Go.Lib in
theorem Tryz.slices_BinarySearch_int (b off n c : Nat) (zs : List Int) (x : Int) (w : World) (hz : n <= zs.length) (hbig : n < 4611686018427387904) (hc : ∀ j, j < zs.length -> w.cell? ⟨b, off + j, none⟩ = some (.int .i64 (zs.getD j 0))) (hs : (zs.take n).Pairwise (· <= ·)) :
    Calls Tryz.prog 100 #[.slice (some ⟨b, off, none⟩) n c, .int .i64 x] w fun e w' => e = .returned (.tuple #[.int .i64 ((zs.take n).countP (· < x) : Nat), .bool ((zs.take n).contains x)]) /\ ∃ q, w' = w.drewN q := Any.slices_BinarySearch_int Tryz.Fj b off n c zs x w hz hbig hc hs
open Go.RowKit Go.Sort in
theorem Tryz.slices_Sort_int_none (p : Option Addr) (cap : Nat) (w : World) :
    Calls Tryz.prog 121 #[.slice p 0 cap] w fun e w' => e = .returned (.tuple #[]) /\ w' = w := Any.slices_Sort_int_none Tryz.Oe p cap w
open Go.RowKit Go.Lib in
theorem Tryz.slices_BinarySearch_int_empty (a : Option Addr) (c : Nat) (x : Int) (w : World) :
    Calls Tryz.prog 100 #[.slice a 0 c, .int .i64 x] w fun e w' => e = .returned (.tuple #[.int .i64 0, .bool false]) /\ w' = w := Any.slices_BinarySearch_int_empty Tryz.Fj a c x w
end Go.Proofs
namespace Go.Proofs.YtcfechepbamhkaaGreat
open Go.RowKit Go.Sea Go.Sort
def dY (zs : List Int) : List CV := zs.map fun z => .iv (.g (.int .i64 z))
theorem bf (zs : List Int) : (dY zs).length = zs.length := by simp [dY]
theorem iI (zs : List Int) : ∀ c, c ∈ dY zs -> j4 c := by
  intro c hc
  simp only [dY, List.mem_map] at hc
  obtain ⟨z, _, rfl⟩ := hc
  trivial
theorem BM (zs : List Int) (k : Nat) (h : k < zs.length) : (dY zs).getD k .any = .iv (.g (.int .i64 (zs.getD k 0))) := by
  simp [dY, List.getD, h]
section
variable {w0 : World} {Z0 : Fr} {J : Nat -> Option Nat} {Z : Nat -> Prop} {s : AS} {a : Act} {w : World}
theorem Fh (R : Rel w0 Z0 J Z s a w) : ∀ n, Rel w0 Z0 J Z s a (Go.Sort.ahead w n)
  | 0 => R
  | n + 1 => by
    have := (Fh R n).drew
    exact this
theorem below_grow (w : World) (os : Array Obj) : Below w.heap.size w (grow w os) := by
  refine ⟨rfl, rfl, rfl, by simp [grow], fun k hk => ?_⟩
  simp only [grow]
  rw [Array.getElem?_append_left hk]
theorem Kr (R : Rel w0 Z0 J Z s a w) {i b : Nat} {zs : List Int} {c : Array Value} {e : TypeId} (hj : J i = some b) (hb : w.heap[b]? = some (.cells c e (0, 0))) (hz : zs ≠ []) (h : hget s.heap i = some (dY zs)) :
    zs.length <= c.size /\ ∀ j, j < zs.length -> c[j]? = some (.int .i64 (zs.getD j 0)) := by
  obtain ⟨c1, e1, g2, g3⟩ := R.cells h (by cases zs <;> simp_all [dY]) hj ⟨_, _, hb⟩
  rw [hb] at g2; cases g2
  have hl := g3.length
  have hl' : zs.length <= c.size := by
    simp only [List.length_take, bf, Array.length_toList] at hl
    omega
  refine ⟨hl', fun j hjz => ?_⟩
  obtain ⟨u, hu, hr⟩ := g3.get (k := j) (y := .iv (.g (.int .i64 (zs.getD j 0)))) (by simp [dY, List.getD, hjz])
  rw [List.getElem?_take, if_pos (by rw [bf]; exact hjz), Array.getElem?_toList] at hu
  rw [hu]; cases hr; rfl
theorem row_holds {b : Nat} {zs : List Int} {c : Array Value} {e : TypeId} (hb : w.heap[b]? = some (.cells c e (0, 0))) (h : ∀ j, j < zs.length -> c[j]? = some (.int .i64 (zs.getD j 0))) : Holds (Value.int .i64) w b 0 zs.toArray := by
  intro j hj
  have hj' : j < zs.length := by simpa using hj
  refine ⟨?_, ?_⟩
  · rw [cell_of_row w b _ c e _ hb, Nat.zero_add, h j hj']
    simp [List.getD, hj']
  · simp [World.frozen?, hb]
theorem abE (R : Rel w0 Z0 J Z s a w) {i b : Nat} {zs ys : List Int} {c : Array Value} {e : TypeId} (hj : J i = some b) (hb : w.heap[b]? = some (.cells c e (0, 0))) (h : hget s.heap i = some (dY zs)) (hl : ys.length = zs.length) (hc : zs.length <= c.size) :
    Rel w0 Z0 J Z { s with heap := hset s.heap i (dY ys) } a (putRow (Value.int .i64) w b 0 ys.toArray) := by
  have hrow := setRow_heap w b c (putCells (Value.int .i64) 0 ys.toArray c) e (0, 0) hb
  have ew : putRow (Value.int .i64) w b 0 ys.toArray = w.setRow b (putCells (Value.int .i64) 0 ys.toArray c) := by
    unfold putRow mapBlock World.setRow
    congr 1
    apply Array.ext_getElem?
    intro k
    simp only [Array.getElem?_modify]
    by_cases hk : b = k
    · subst hk
      simp only [if_true]
      rw [hb]; rfl
    · simp [hk]
  rw [ew]
  refine R.set h hj hb (by simp [putCells]) (aH _ _ _) (fun k hk => aJ _ _ _ _ hk) ?_
  refine aO.of (by simp [putCells, bf]; omega) fun k u y hu hy => ?_
  have hk : k < ys.length := by
    rw [List.getElem?_take] at hu
    split at hu
    · rename_i h; rwa [bf] at h
    · cases hu
  rw [List.getElem?_take, if_pos (by rw [bf]; exact hk), Array.getElem?_toList] at hu
  simp only [putCells, Array.getElem?_mapIdx] at hu
  rw [Array.getElem?_eq_getElem (by omega)] at hu
  simp [hk] at hu
  simp [dY, hk] at hy
  subst hu; subst hy
  exact Rd.g _ rfl
end
theorem Vm (zs : List Int) : (zs.mergeSort fun x y => decide (x <= y)).length = zs.length := by simp
theorem ZJ (zs : List Int) (hz : zs.length < 4611686018427387904) (i : Nat) : Fy Tryz.prog 121 [.one (.slc i 0 zs.length 1)] i (dY zs) (.tup []) (dY (zs.mergeSort fun x y => decide (x <= y))) := by
  intro H hH w0 Z0 J Z s a w vs R hs hv
  subst hs
  obtain ⟨vs⟩ := vs
  match vs, hv with
  | [v], ⟨hv, _⟩ =>
    by_cases h0 : zs = []
    · subst h0
      have ev : ∃ p cap, v = .slice p 0 cap := by
        rcases hv with ⟨_, rfl⟩ | ⟨b, cap, c, e, rfl, _⟩ <;> exact ⟨_, _, rfl⟩
      obtain ⟨p, cap, rfl⟩ := ev
      refine (Tryz.slices_Sort_int_none p cap w).mono fun e w' ⟨he, hw⟩ => ?_
      subst hw
      refine ⟨_, J, Z, he, ?_, #[], rfl, trivial⟩
      have e1 : dY (([] : List Int).mergeSort fun x y => decide (x <= y)) = dY [] := by simp [dY]
      rw [e1]
      exact R.same fun k => by
        by_cases hk : k = i
        · subst hk; rw [aH]; exact hH.symm
        · exact aJ _ _ _ _ hk
    · rcases hv with ⟨h, _⟩ | ⟨b, cap, c, e, rfl, hj, hc1, hc2, hb, hsz⟩
      · exact absurd (List.eq_nil_of_length_eq_zero h) h0
      · obtain ⟨k1, k2⟩ := Kr R hj hb h0 hH
        refine (Tryz.slices_Sort_int b 0 cap zs w (row_holds hb k2) (R.jlt i b hj).2.1 hz).mono fun e' w' ⟨he, n, os, hw⟩ => ?_
        subst hw
        have R1 := abE (Fh R n) (ys := zs.mergeSort fun x y => decide (x <= y)) hj hb hH (Vm zs) k1
        exact ⟨_, J, _, he, (R1.call (below_grow _ os)).1, #[], rfl, trivial⟩
end Go.Proofs.YtcfechepbamhkaaGreat
