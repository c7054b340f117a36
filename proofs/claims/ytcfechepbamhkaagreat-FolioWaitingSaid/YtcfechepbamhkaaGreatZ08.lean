/- Part 8 of 17: contracts of functions and plain laws for the root text. No condition. -/
import Derived.Test.YtcfechepbamhkaaGreatZ01
import Derived.Test.YtcfechepbamhkaaGreatZ02
import Derived.Test.YtcfechepbamhkaaGreatZ03
import Derived.Test.YtcfechepbamhkaaGreatZ04
import Derived.Test.YtcfechepbamhkaaGreatZ05
import Derived.Test.YtcfechepbamhkaaGreatZ06
import Derived.Test.YtcfechepbamhkaaGreatZ07
import Derived.Shelf.Small.Bits
import Derived.Shelf.Small.Wraps
import Derived.Shelf.Strconv.Itoa0
import Derived.Shelf.Sort.Plain
import Derived.Shelf.Slices.Turned
import Derived.Shelf.Slices.Reverse
import Derived.Shelf.Slices.Equal
import Derived.Ground.Names2Prog
import Derived.Shelf.Slices.Clone
import Derived.Shelf.Slices.SearchI
import Derived.Shelf.Slices.Cells
import Derived.Shelf.Slices.In.SortNone
import Derived.Shelf.Slices.Empties
import Derived.Shelf.Slices.Empties2
import Derived.Ground.SlgnProg
import Derived.Shelf.SlicesE.Reverse
import Derived.Shelf.SlicesE.Clone
import Derived.Test.YtcfechepbamhkaaGreatProg
import Derived.Lib.RowBridge
set_option linter.unusedVariables false
set_option linter.unusedSimpArgs false
set_option maxRecDepth 100000
set_option maxHeartbeats 4000000
namespace Go.Proofs.YtcfechepbamhkaaGreat
open Go.RowKit Go.Sea
open Nat renaming reduceAdd -> xA, reduceLT -> xL, reduceLeDiff -> xD, reduceEqDiff -> xE, reduceMul -> xM, reduceSub -> xS, reduceBEq -> xB
theorem Dq : aN Tryz.prog 133 = true := by kernel_rfl
theorem ER : aN Tryz.prog 58 = true := by kernel_rfl
theorem Kr : aN Tryz.prog 143 = true := by kernel_rfl
theorem Km : aN Tryz.prog 145 = true := by kernel_rfl
theorem Jp : aN Tryz.prog 108 = true := by kernel_rfl
theorem alP : fM Tryz.prog 64 = true := by kernel_rfl
theorem aku : fM Tryz.prog 66 = true := by kernel_rfl
theorem aaT : dF Tryz.prog 66 0 = some 0 := by kernel_rfl
theorem aa8 : dF Tryz.prog 66 1 = some 1 := by kernel_rfl
theorem acA : dF Tryz.prog 66 2 = some 2 := by kernel_rfl
theorem ac1 : dF Tryz.prog 66 3 = some 11 := by kernel_rfl
theorem aeB : dF Tryz.prog 66 4 = some 13 := by kernel_rfl
theorem adA : dF Tryz.prog 66 5 = some 14 := by kernel_rfl
theorem aaO : dF Tryz.prog 66 6 = some 15 := by kernel_rfl
theorem aem : dz Tryz.prog 66 0 = some (0, 1) := by kernel_rfl
theorem aeh : dz Tryz.prog 66 1 = some (1, 1) := by kernel_rfl
theorem amx : lQ Tryz.prog 64 = some (true, 9) := by kernel_rfl
theorem al4 : lQ Tryz.prog 66 = some (true, 16) := by kernel_rfl
theorem am6 : fV Tryz.prog 64 = some [.iv (.g (.int .i64 0)), .iv (.g (.int .i64 0)), .iv (.g (.int .i64 0)), .iv (.g (.int .i64 0)), .iv (.g (.int .i64 0)), .iv (.g (.slice none 0 0)), .iv (.g (.int .i64 0)), .iv (.g (.int .i64 0)), .iv (.g (.slice none 0 0))] := by kernel_rfl
theorem akI : fV Tryz.prog 66 = some [.iv (.g (.int .i64 0)), .iv (.g (.int .i64 0)), .iv (.g (.int .i64 0)), .iv (.g (.int .i64 0)), .iv (.g (.int .i64 0)), .iv (.g (.int .i64 0)), .iv (.g (.int .i64 0)), .iv (.g (.slice none 0 0)), .iv (.g (.int .i64 0)), .iv (.g (.int .i64 0)), .iv (.g (.slice none 0 0)), .iv (.g (.int .i64 0)), .iv (.g (.int .i64 0)), .iv (.g (.int .i64 0)), .iv (.g (.int .i64 0)), .iv (.g (.int .i64 0))] := by kernel_rfl
attribute [go_sem] Dq ER Kr Km Jp alP aku aaT aa8 acA ac1 aeB adA aaO aem aeh amx al4 am6 akI
structure fE where
  kd : Int
  id : Int
  f : aZ
  x : Int
  y : Int
  r : Int
  d : Int
  s : Int
def eF : aZ := ⟨0, 0, 0, 0, 0, 0, fun _ _ => 0, 0, 0, 0, fun _ _ => 0⟩
def Ti (k i : Int) : fE := ⟨k, i, eF, 0, 0, 0, 0, 0⟩
def fI (o : fE) : fE := if o.kd = 1 then ⟨o.kd, o.id, eF, o.x, o.y, o.r, o.d, o.s⟩ else if o.kd = 3 then ⟨o.kd, o.id, o.f, 0, 0, 0, o.d, o.s⟩ else if o.kd = 4 then ⟨o.kd, o.id, o.f, o.x, o.y, o.r, 0, o.s⟩ else if o.kd = 5 then ⟨o.kd, o.id, o.f, o.x, o.y, o.r, o.d, 0⟩ else o
theorem ql : eF.Ok := ⟨by simp [eF], by simp [eF]⟩
theorem Wt {o : fE} (h : o.f.Ok) : (fI o).f.Ok := by
  unfold fI; repeat' split
  all_goals first | exact ql | exact h
def zF (f : aZ) : Prop := f.id = 0 /\ f.kd = 0 /\ f.x = 0 /\ f.y = 0 /\ f.r = 0 /\ f.d = 0 /\ f.s = 0 /\ f.n = 0 /\ f.m = 0
instance (f : aZ) : Decidable (zF f) := by unfold zF; infer_instance
def opC (o : fE) (pt rm fe : Bool) : Prop :=
  (1 <= o.id /\ o.id <= 100000) /\ (o.kd = 1 /\ o.f.id = o.id /\ fe = true /\ o.x = 0 /\ o.y = 0 /\ o.r = 0 /\ o.d = 0 /\ o.s = 0 \/ zF o.f ∧
    (o.kd = 2 /\ o.x = 0 /\ o.y = 0 /\ o.r = 0 /\ o.d = 0 /\ o.s = 0 \/ o.kd = 3 /\ (0 <= o.r /\ o.r <= 100000) /\ pt = true /\ rm = true /\ o.d = 0 /\ o.s = 0 ∨
     o.kd = 4 /\ (0 <= o.d /\ o.d <= 100000) /\ o.x = 0 /\ o.y = 0 /\ o.r = 0 /\ o.s = 0 \/ o.kd = 5 /\ (0 <= o.s /\ o.s <= 999) /\ o.x = 0 /\ o.y = 0 /\ o.r = 0 /\ o.d = 0))
instance (o : fE) (pt rm fe : Bool) : Decidable (opC o pt rm fe) := by unfold opC; infer_instance
def yM (o : fE) : Bool := decide (opC o (gK o.x o.y) (rz o.x o.y o.r) (jv o.f))
def qY (a b : fE) : Bool := decide (a.kd = b.kd /\ a.id = b.id /\ a.x = b.x /\ a.y = b.y /\ a.r = b.r /\ a.d = b.d /\ a.s = b.s) && uG a.f b.f
theorem agu {w n : Nat} {P Q : Nat -> Nat -> Int} : AP w n 0 P Q = true ↔ n = 0 := by
  unfold AP; rw [decide_eq_true_eq]
  exact ⟨fun h => h.1, fun h => ⟨h, fun i hi => by omega⟩⟩
theorem ajy (f : aZ) : uG f eF = true ↔ zF f := by
  unfold uG zF; simp only [Bool.and_eq_true, decide_eq_true_eq]; simp only [eF, agu, and_assoc]
theorem xg (o : fE) : qY (fI o) (Ti o.kd o.id) = true ↔ ((o.kd = 1 \/ zF o.f) /\ (o.kd = 3 \/ (o.x = 0 /\ o.y = 0 /\ o.r = 0)) /\ (o.kd = 4 \/ o.d = 0) /\ (o.kd = 5 \/ o.s = 0)) := by
  have h0 : zF eF := ⟨rfl, rfl, rfl, rfl, rfl, rfl, rfl, rfl, rfl⟩
  unfold qY; simp only [Bool.and_eq_true, decide_eq_true_eq]; simp only [Ti, ajy]
  unfold fI
  by_cases h1 : o.kd = 1
  · simp [h1, h0, and_assoc]
  · by_cases h3 : o.kd = 3
    · simp [h3]
      generalize zF o.f = z at *; constructor <;> (intro h; simp_all)
    · by_cases h4 : o.kd = 4
      · simp [h4]
        generalize zF o.f = z at *; constructor <;> (intro h; simp_all)
      · by_cases h5 : o.kd = 5
        · simp [h5]
          generalize zF o.f = z at *; constructor <;> (intro h; simp_all)
        · simp [h1, h3, h4, h5]
          generalize zF o.f = z at *; constructor <;> (intro h; simp_all)
theorem aiP {o : fE} (h : o.kd = 1) : fI o = ⟨o.kd, o.id, eF, o.x, o.y, o.r, o.d, o.s⟩ := by unfold fI; rw [if_pos h]
theorem ai2 {o : fE} (h : o.kd = 3) : fI o = ⟨o.kd, o.id, o.f, 0, 0, 0, o.d, o.s⟩ := by unfold fI; rw [if_neg (by omega), if_pos h]
theorem ajZ {o : fE} (h : o.kd = 4) : fI o = ⟨o.kd, o.id, o.f, o.x, o.y, o.r, 0, o.s⟩ := by unfold fI; rw [if_neg (by omega), if_neg (by omega), if_pos h]
theorem ah9 {o : fE} (h : o.kd = 5) : fI o = ⟨o.kd, o.id, o.f, o.x, o.y, o.r, o.d, 0⟩ := by unfold fI; rw [if_neg (by omega), if_neg (by omega), if_neg (by omega), if_pos h]
theorem ag4 {o : fE} (h : o.kd ≠ 1 /\ o.kd ≠ 3 /\ o.kd ≠ 4 /\ o.kd ≠ 5) : fI o = o := by unfold fI; rw [if_neg h.1, if_neg h.2.1, if_neg h.2.2.1, if_neg h.2.2.2]
theorem lq (o : fE) : yM o = true ↔ opC o (gK o.x o.y) (rz o.x o.y o.r) (jv o.f) := decide_eq_true_iff
def idO (o : fE) : Prop := (1 <= o.id /\ o.id <= 100000) /\ qY (fI o) (Ti o.kd o.id) = true
theorem an5 {o : fE} (h : (o.id < 1 \/ o.id > 100000) \/ qY (fI o) (Ti o.kd o.id) = false) : false = yM o := by
  refine Bool.eq_iff_iff.2 ?_
  rw [lq]
  refine ⟨fun g => (by cases g), fun g => ?_⟩
  exfalso
  obtain ⟨g1, g2⟩ := g
  have : qY (fI o) (Ti o.kd o.id) = true := by
    rw [xg]
    rcases g2 with g2 | ⟨gz, g2 | g2 | g2 | g2⟩
    · exact ⟨Or.inl g2.1, by omega, by omega, by omega⟩
    all_goals exact ⟨Or.inr gz, by omega, by omega, by omega⟩
  rcases h with h | h
  · omega
  · rw [this] at h; cases h
theorem aow {o : fE} (h : idO o) (hk : o.kd = 1) : (o.f.id == o.id && jv o.f) = yM o := by
  obtain ⟨h1, h2⟩ := h; rw [xg] at h2
  refine Bool.eq_iff_iff.2 ?_
  rw [lq]; unfold opC; simp only [Bool.and_eq_true, beq_iff_eq]
  constructor
  · rintro ⟨g1, g2⟩; exact ⟨h1, Or.inl ⟨hk, g1, g2, by omega, by omega, by omega, by omega, by omega⟩⟩
  · rintro ⟨_, g | ⟨_, g | g | g | g⟩⟩
    · exact ⟨g.2.1, g.2.2.1⟩
    all_goals omega
theorem ad2 {o : fE} (h2 : (o.kd = 1 \/ zF o.f) /\ (o.kd = 3 \/ (o.x = 0 /\ o.y = 0 /\ o.r = 0)) /\ (o.kd = 4 \/ o.d = 0) /\ (o.kd = 5 \/ o.s = 0)) (hk : o.kd ≠ 1) : zF o.f := h2.1.resolve_left hk
theorem anw {o : fE} (h : idO o) (hk : o.kd = 2) : true = yM o := by
  obtain ⟨h1, h2⟩ := h; rw [xg] at h2
  refine ((lq o).2 ⟨h1, Or.inr ⟨ad2 h2 (by omega), Or.inl (by omega)⟩⟩).symm
theorem anL {o : fE} (h : idO o) (hk : o.kd = 3) : (decide (o.r >= 0) && decide (o.r <= 100000) && gK o.x o.y && rz o.x o.y o.r) = yM o := by
  obtain ⟨h1, h2⟩ := h; rw [xg] at h2
  refine Bool.eq_iff_iff.2 ?_
  rw [lq]; unfold opC; simp only [Bool.and_eq_true, decide_eq_true_eq]
  constructor
  · rintro ⟨⟨⟨g1, g2⟩, g3⟩, g4⟩; exact ⟨h1, Or.inr ⟨ad2 h2 (by omega), Or.inr (Or.inl ⟨hk, ⟨g1, g2⟩, g3, g4, by omega, by omega⟩)⟩⟩
  · rintro ⟨_, g | ⟨_, g | g | g | g⟩⟩
    · omega
    · omega
    · exact ⟨⟨⟨g.2.1.1, g.2.1.2⟩, g.2.2.1⟩, g.2.2.2.1⟩
    all_goals omega
theorem anN {o : fE} (h : idO o) (hk : o.kd = 4) : (decide (o.d >= 0) && decide (o.d <= 100000)) = yM o := by
  obtain ⟨h1, h2⟩ := h; rw [xg] at h2
  refine Bool.eq_iff_iff.2 ?_
  rw [lq]; unfold opC; simp only [Bool.and_eq_true, decide_eq_true_eq]
  constructor
  · rintro ⟨g1, g2⟩; exact ⟨h1, Or.inr ⟨ad2 h2 (by omega), Or.inr (Or.inr (Or.inl ⟨hk, ⟨g1, g2⟩, by omega, by omega, by omega, by omega⟩))⟩⟩
  · rintro ⟨_, g | ⟨_, g | g | g | g⟩⟩ <;> omega
theorem anF {o : fE} (h : idO o) (hk : o.kd = 5) : (decide (o.s >= 0) && decide (o.s <= 999)) = yM o := by
  obtain ⟨h1, h2⟩ := h; rw [xg] at h2
  refine Bool.eq_iff_iff.2 ?_
  rw [lq]; unfold opC; simp only [Bool.and_eq_true, decide_eq_true_eq]
  constructor
  · rintro ⟨g1, g2⟩; exact ⟨h1, Or.inr ⟨ad2 h2 (by omega), Or.inr (Or.inr (Or.inr ⟨hk, ⟨g1, g2⟩, by omega, by omega, by omega, by omega⟩))⟩⟩
  · rintro ⟨_, g | ⟨_, g | g | g | g⟩⟩ <;> omega
theorem aoi {o : fE} (hk : o.kd ≠ 1 /\ o.kd ≠ 2 /\ o.kd ≠ 3 /\ o.kd ≠ 4 /\ o.kd ≠ 5) : false = yM o := by
  refine Bool.eq_iff_iff.2 ?_
  rw [lq]; unfold opC
  refine ⟨fun g => (by cases g), ?_⟩
  rintro ⟨_, g | ⟨_, g | g | g | g⟩⟩ <;> omega
theorem aiC (o : fE) (ho : o.f.Ok) : aA Tryz.prog 143 [.agg [.g (.int .i64 (o.kd)), .g (.int .i64 (o.id)), .g (.int .i64 (o.f.id)), .g (.int .i64 (o.f.kd)), .g (.int .i64 (o.f.x)), .g (.int .i64 (o.f.y)), .g (.int .i64 (o.f.r)), .lst 2 o.f.n (eO o.f.P), .g (.int .i64 (o.f.d)), .g (.int .i64 (o.f.s)), .lst 6 o.f.m (eO o.f.S), .g (.int .i64 (o.x)), .g (.int .i64 (o.y)), .g (.int .i64 (o.r)), .g (.int .i64 (o.d)), .g (.int .i64 (o.s))]] (.t (.agg [.g (.int .i64 ((fI o).kd)), .g (.int .i64 ((fI o).id)), .g (.int .i64 ((fI o).f.id)), .g (.int .i64 ((fI o).f.kd)), .g (.int .i64 ((fI o).f.x)), .g (.int .i64 ((fI o).f.y)), .g (.int .i64 ((fI o).f.r)), .lst 2 (fI o).f.n (eO (fI o).f.P), .g (.int .i64 ((fI o).f.d)), .g (.int .i64 ((fI o).f.s)), .lst 6 (fI o).f.m (eO (fI o).f.S), .g (.int .i64 ((fI o).x)), .g (.int .i64 ((fI o).y)), .g (.int .i64 ((fI o).r)), .g (.int .i64 ((fI o).d)), .g (.int .i64 ((fI o).s))])) := by
  refine ak Tryz.func143 rfl (by rw [Tryz.ntmps143]; simp) ?_
  simp only [Tryz.ntmps143, zM, PT.tv, au, Nat.zero_add, Nat.reduceAdd]
  repeat' (first
 | ((with_reducible show AW _ _ _ _); first
 | (with_reducible first | refine aS (fun K hK => ?_) | refine aI ?_ | refine aT ?_ | refine aC ?_ | refine aB ?_)
 | (first
 | (with_reducible first | refine aP 0 [0] ?_ | refine aP 1 [1,2] ?_ | refine aP 2 [1,2,4] ?_ | refine aP 3 [1,2] ?_ | refine aP 4 [1,2,4] ?_ | refine aP 5 [1,2] ?_ | refine aP 6 [1,2,4] ?_ | refine aP 7 [1,2] ?_ | refine aP 8 [1,2,4] ?_ | refine aP 9 [1,2] ?_ | refine aP 10 [1,2] ?_)))
 | (with_reducible refine aJ ?_)
 | ((with_reducible show bL _ _ _ _ _ _); first
 | ((with_reducible refine aM ?_ ?_) <;> (intro hc; (try simp only [zB, zC, reduceCtorEq] at hc); (try (exfalso; contradiction)))))
 | ((fail_if_success (with_reducible show AW _ _ _ _)); simp (maxSteps := 2000000) only [go_sem, reduceIte, reduceCtorEq, xA, xL, xD, xE, xM, xS, xB, Tryz.f143])
 | ((with_reducible refine hK _ ?_); clear hK K))
  all_goals ((first | rw [aiP (by assumption)] | rw [ai2 (by assumption)] | rw [ajZ (by assumption)] | rw [ah9 (by assumption)] | rw [ag4 ⟨by assumption, by assumption, by assumption, by assumption⟩]); (repeat' (first | exact rfl | (with_reducible refine And.intro ?_ ?_) | (intro i q hi hq; exact IV.bf _))))
theorem afF (a b : fE) (ha : a.f.Ok) (hb : b.f.Ok) : aA Tryz.prog 58 [.agg [.g (.int .i64 (a.kd)), .g (.int .i64 (a.id)), .g (.int .i64 (a.f.id)), .g (.int .i64 (a.f.kd)), .g (.int .i64 (a.f.x)), .g (.int .i64 (a.f.y)), .g (.int .i64 (a.f.r)), .lst 2 a.f.n (eO a.f.P), .g (.int .i64 (a.f.d)), .g (.int .i64 (a.f.s)), .lst 6 a.f.m (eO a.f.S), .g (.int .i64 (a.x)), .g (.int .i64 (a.y)), .g (.int .i64 (a.r)), .g (.int .i64 (a.d)), .g (.int .i64 (a.s))], .agg [.g (.int .i64 (b.kd)), .g (.int .i64 (b.id)), .g (.int .i64 (b.f.id)), .g (.int .i64 (b.f.kd)), .g (.int .i64 (b.f.x)), .g (.int .i64 (b.f.y)), .g (.int .i64 (b.f.r)), .lst 2 b.f.n (eO b.f.P), .g (.int .i64 (b.f.d)), .g (.int .i64 (b.f.s)), .lst 6 b.f.m (eO b.f.S), .g (.int .i64 (b.x)), .g (.int .i64 (b.y)), .g (.int .i64 (b.r)), .g (.int .i64 (b.d)), .g (.int .i64 (b.s))]] (.t (.one (.g (.bool (qY a b))))) := by
  refine ak Tryz.func58 rfl (by rw [Tryz.ntmps58]; simp) ?_
  simp only [Tryz.ntmps58, zM, PT.tv, au, Nat.zero_add, Nat.reduceAdd]
  repeat' (first
 | ((with_reducible show AW _ _ _ _); first
 | (with_reducible first | refine aS (fun K hK => ?_) | refine aT ?_)
 | (first
 | (with_reducible first | refine aP 0 [0,1] ?_ | refine aP 1 [2,3] ?_)))
 | (((with_reducible refine Need.mk ?_)); focus ((intro _; (with_reducible assumption))))
 | (with_reducible refine aJ ?_)
 | ((with_reducible show bG _ _ _ _ _ _ _ _ _ _); first
 | (refine aO (k := 108) Jp (fun hg => aed _ _ ha hb) ?_ ?_))
 | ((fail_if_success (with_reducible show AW _ _ _ _)); simp (maxSteps := 2000000) only [go_sem, reduceIte, reduceCtorEq, xA, xL, xD, xE, xM, xS, xB, Tryz.f58, Go.Sea.nZ])
 | ((with_reducible refine hK _ ?_); clear hK K))
  all_goals (unfold qY; refine Bool.eq_iff_iff.2 ?_; simp only [Bool.and_eq_true, decide_eq_true_eq, beq_iff_eq, and_assoc])
theorem ahn (a : fE) (ha : a.f.Ok) (k i : Int) : aA Tryz.prog 58 [.agg [.g (.int .i64 (a.kd)), .g (.int .i64 (a.id)), .g (.int .i64 (a.f.id)), .g (.int .i64 (a.f.kd)), .g (.int .i64 (a.f.x)), .g (.int .i64 (a.f.y)), .g (.int .i64 (a.f.r)), .lst 2 a.f.n (eO a.f.P), .g (.int .i64 (a.f.d)), .g (.int .i64 (a.f.s)), .lst 6 a.f.m (eO a.f.S), .g (.int .i64 (a.x)), .g (.int .i64 (a.y)), .g (.int .i64 (a.r)), .g (.int .i64 (a.d)), .g (.int .i64 (a.s))], .agg [.g (.int .i64 k), .g (.int .i64 i), .g (.int .i64 0), .g (.int .i64 0), .g (.int .i64 0), .g (.int .i64 0), .g (.int .i64 0), .g (.slice none 0 0), .g (.int .i64 0), .g (.int .i64 0), .g (.slice none 0 0), .g (.int .i64 0), .g (.int .i64 0), .g (.int .i64 0), .g (.int .i64 0), .g (.int .i64 0)]] (.t (.one (.g (.bool (qY a (Ti k i)))))) := by
  exact (afF a (Ti k i) ha ql).eqv (by simp [Ti, eF, aU, PT.eqv, IV.eqv]; exact ⟨fun i o _ _ => IV.bf _, fun i o _ _ => IV.bf _⟩) (PV.bf _)
theorem amO (o : fE) (ho : o.f.Ok) : aA Tryz.prog 107 [.agg [.g (.int .i64 (o.kd)), .g (.int .i64 (o.id)), .g (.int .i64 (o.f.id)), .g (.int .i64 (o.f.kd)), .g (.int .i64 (o.f.x)), .g (.int .i64 (o.f.y)), .g (.int .i64 (o.f.r)), .lst 2 o.f.n (eO o.f.P), .g (.int .i64 (o.f.d)), .g (.int .i64 (o.f.s)), .lst 6 o.f.m (eO o.f.S), .g (.int .i64 (o.x)), .g (.int .i64 (o.y)), .g (.int .i64 (o.r)), .g (.int .i64 (o.d)), .g (.int .i64 (o.s))]] (.t (.one (.g (.bool (yM o))))) := by
  refine ak Tryz.func107 rfl (by rw [Tryz.ntmps107]; simp) ?_
  simp only [Tryz.ntmps107, zM, PT.tv, au, Nat.zero_add, Nat.reduceAdd]
  repeat' (first
 | ((with_reducible show AW _ _ _ _); first
 | (with_reducible first | refine aS (fun K hK => ?_) | refine aI ?_ | refine aT ?_ | refine aC ?_ | refine aB ?_)
 | (first
 | (with_reducible refine aP 0 [0] ?_)
 | ((with_reducible refine aR (c := Code.region 1 _ true) [1] ?_); (with_reducible refine aD ?_ ?_ ?_ ?_); (focus kernel_rfl); (focus kernel_rfl); (focus kernel_rfl))
 | (with_reducible first | refine aP 2 [] ?_ | refine aP 3 [1] ?_ | refine aP 4 [1,23] ?_ | refine aP 5 [1] ?_ | refine aP 6 [1,23] ?_ | refine aP 7 [] ?_ | refine aP 8 [1,23] ?_ | refine aP 9 [1] ?_ | refine aP 10 [1,23] ?_ | refine aP 11 [1] ?_ | refine aP 12 [1,23] ?_ | refine aP 13 [1] ?_ | refine aP 14 [] ?_)))
 | ((first | (with_reducible refine And.intro ?_ ?_) | (with_reducible refine Need.mk ?_)); focus (first | (intro _; (with_reducible assumption)) | (simp; done)))
 | (with_reducible refine aJ ?_)
 | ((with_reducible show bL _ _ _ _ _ _); first
 | ((with_reducible refine aM ?_ ?_) <;> (intro hc; (try simp only [zB, zC, reduceCtorEq] at hc); (try (exfalso; contradiction)))))
 | ((with_reducible refine And.intro ?_ ?_); focus ((with_reducible show gW _ _ _ = true); kernel_rfl))
 | ((with_reducible show iY _ _ _ _ _ _ _ _ _ _ _ _ _); first
 | (refine gF (k := 143) Kr (fun hg => aiC o ho) ?_ ?_)
 | (refine gF (k := 58) ER (fun hg => ahn (fI o) (Wt ho) _ _) ?_ ?_))
 | ((with_reducible show bG _ _ _ _ _ _ _ _ _ _); first
 | (refine aO (k := 133) Dq (fun hg => ZP _ ho) ?_ ?_)
 | (refine aO (k := 144) jT (fun hg => yG _ _) ?_ ?_)
 | (refine aO (k := 145) Km (fun hg => adS _ _ _ (by simp only [Bool.and_eq_true, decide_eq_true_eq] at hg; exact hg.2) (by simp only [Bool.and_eq_true, decide_eq_true_eq] at hg; omega)) ?_ ?_))
 | ((fail_if_success (with_reducible show AW _ _ _ _)); simp (maxSteps := 2000000) only [go_sem, reduceIte, reduceCtorEq, xA, xL, xD, xE, xM, xS, xB, Tryz.f107])
 | ((with_reducible refine hK _ ?_); clear hK K))
  all_goals (first | exact an5 (by assumption) | exact aow (by assumption) (by assumption) | exact anw (by assumption) (by assumption) | exact anL (by assumption) (by assumption) | exact anN (by assumption) (by assumption) | exact anF (by assumption) (by assumption) | exact aoi (by omega))
end Go.Proofs.YtcfechepbamhkaaGreat
set_option maxRecDepth 100000
set_option maxHeartbeats 4000000
namespace Go.Proofs.YtcfechepbamhkaaGreat
open Go.RowKit Go.Sea
open Nat renaming reduceAdd -> xA, reduceLT -> xL, reduceLeDiff -> xD, reduceEqDiff -> xE, reduceMul -> xM, reduceSub -> xS, reduceBEq -> xB
theorem amQ : Ho Tryz.prog 56 = none := by kernel_rfl
theorem Bp : aN Tryz.prog 105 = true := by kernel_rfl
theorem Vd : aN Tryz.prog 106 = true := by kernel_rfl
theorem DJ : aN Tryz.prog 107 = true := by kernel_rfl
theorem Wq : aN Tryz.prog 154 = true := by kernel_rfl
theorem Ah : aN Tryz.prog 142 = true := by kernel_rfl
theorem GQ : aN Tryz.prog 64 = true := by kernel_rfl
theorem alC : xH Tryz.prog 56 = some true := by kernel_rfl
theorem aen : dF Tryz.prog 58 0 = some 0 := by kernel_rfl
theorem aaP : dF Tryz.prog 58 1 = some 1 := by kernel_rfl
theorem aeH : dF Tryz.prog 58 2 = some 2 := by kernel_rfl
theorem akJ : qX Tryz.prog 56 = some (16, 160, 66) := by kernel_rfl
theorem am9 : lQ Tryz.prog 36 = some (false, 1) := by kernel_rfl
theorem aj2 : lQ Tryz.prog 56 = some (false, 1) := by kernel_rfl
attribute [go_sem] amQ Bp DJ Wq Ah GQ alC aen aaP aeH akJ am9 aj2
def bn (s : Nat -> Int) (i o : Nat) : IV := .g (.int .i64 (s i))
structure eH where
  ch : Int
  q : Nat
  a : Nat -> Int
  k : Nat
  o : Nat -> fE
structure ah where
  oc : Int
  nu : Int
  kd : Int
  fr : Int
  un : Int
  ca : Int
  n : Nat
  p : Nat -> eH
structure eH.Ok (p : eH) : Prop where
  q : p.q <= 9223372036854775807
  k : p.k <= 9223372036854775807
  o : ∀ i, i < p.k -> (p.o i).f.Ok
structure ah.Ok (N : ah) : Prop where
  n : N.n <= 9223372036854775807
  p : ∀ i, i < N.n -> (N.p i).Ok
def ajp : fE -> Nat -> IV
  | o, 0 => .g (.int .i64 (o.kd))
  | o, 1 => .g (.int .i64 (o.id))
  | o, 2 => .g (.int .i64 (o.f.id))
  | o, 3 => .g (.int .i64 (o.f.kd))
  | o, 4 => .g (.int .i64 (o.f.x))
  | o, 5 => .g (.int .i64 (o.f.y))
  | o, 6 => .g (.int .i64 (o.f.r))
  | o, 7 => .lst 2 o.f.n (eO o.f.P)
  | o, 8 => .g (.int .i64 (o.f.d))
  | o, 9 => .g (.int .i64 (o.f.s))
  | o, 10 => .lst 6 o.f.m (eO o.f.S)
  | o, 11 => .g (.int .i64 (o.x))
  | o, 12 => .g (.int .i64 (o.y))
  | o, 13 => .g (.int .i64 (o.r))
  | o, 14 => .g (.int .i64 (o.d))
  | o, _ + 15 => .g (.int .i64 (o.s))
def iR (o : Nat -> fE) (i c : Nat) : IV := ajp (o i) c
theorem alb (o : Nat -> fE) (i : Nat) : iR o i 0 = .g (.int .i64 ((o i).kd)) := rfl
theorem akF (o : Nat -> fE) (i : Nat) : iR o i 1 = .g (.int .i64 ((o i).id)) := rfl
theorem amj (o : Nat -> fE) (i : Nat) : iR o i 2 = .g (.int .i64 ((o i).f.id)) := rfl
theorem amo (o : Nat -> fE) (i : Nat) : iR o i 3 = .g (.int .i64 ((o i).f.kd)) := rfl
theorem akq (o : Nat -> fE) (i : Nat) : iR o i 4 = .g (.int .i64 ((o i).f.x)) := rfl
theorem akr (o : Nat -> fE) (i : Nat) : iR o i 5 = .g (.int .i64 ((o i).f.y)) := rfl
theorem ak0 (o : Nat -> fE) (i : Nat) : iR o i 6 = .g (.int .i64 ((o i).f.r)) := rfl
theorem al3 (o : Nat -> fE) (i : Nat) : iR o i 7 = .lst 2 (o i).f.n (eO (o i).f.P) := rfl
theorem akf (o : Nat -> fE) (i : Nat) : iR o i 8 = .g (.int .i64 ((o i).f.d)) := rfl
theorem akT (o : Nat -> fE) (i : Nat) : iR o i 9 = .g (.int .i64 ((o i).f.s)) := rfl
theorem ajD (o : Nat -> fE) (i : Nat) : iR o i 10 = .lst 6 (o i).f.m (eO (o i).f.S) := rfl
theorem ahh (o : Nat -> fE) (i : Nat) : iR o i 11 = .g (.int .i64 ((o i).x)) := rfl
theorem aiq (o : Nat -> fE) (i : Nat) : iR o i 12 = .g (.int .i64 ((o i).y)) := rfl
theorem aiA (o : Nat -> fE) (i : Nat) : iR o i 13 = .g (.int .i64 ((o i).r)) := rfl
theorem ag7 (o : Nat -> fE) (i : Nat) : iR o i 14 = .g (.int .i64 ((o i).d)) := rfl
theorem ajT (o : Nat -> fE) (i : Nat) : iR o i 15 = .g (.int .i64 ((o i).s)) := rfl
attribute [go_sem] alb akF amj amo akq akr ak0 al3 akf akT ajD ahh aiq aiA ag7 ajT
def TA : eH -> Nat -> IV
  | p, 0 => .g (.int .i64 p.ch)
  | p, 1 => .lst 1 p.q (bn p.a)
  | p, _ + 2 => .lst 16 p.k (iR p.o)
def dK (p : Nat -> eH) (i c : Nat) : IV := TA (p i) c
theorem ag9 (p : Nat -> eH) (i : Nat) : dK p i 0 = .g (.int .i64 (p i).ch) := rfl
theorem ahj (p : Nat -> eH) (i : Nat) : dK p i 1 = .lst 1 (p i).q (bn (p i).a) := rfl
theorem ahe (p : Nat -> eH) (i : Nat) : dK p i 2 = .lst 16 (p i).k (iR (p i).o) := rfl
def DV (s : ah) : PT := .agg [.g (.int .i64 s.oc), .g (.int .i64 s.nu), .g (.int .i64 s.kd), .g (.int .i64 s.fr), .g (.int .i64 s.un), .g (.int .i64 s.ca), .lst 3 s.n (dK s.p)]
attribute [go_sem] DV
attribute [go_sem] ag9 ahj ahe
def nD (a : Nat -> Int) (nu : Int) (i : Nat) : Prop := 1 <= a i /\ a i < nu /\ (0 < i -> a (i - 1) < a i)
def oH (a : Nat -> Int) (i : Nat) : Int := if i = 0 then 0 else a (i - 1)
theorem pX (a : Nat -> Int) (i : Nat) : oH a (i + 1) = a i := by simp [oH]
theorem acu {a : Nat -> Int} {nu : Int} {i : Nat} (h : ∀ j, j < i -> nD a nu j) : 0 <= oH a i := by
  unfold oH; split
  · omega
  · have := (h (i - 1) (by omega)).1; omega
theorem amu {a : Nat -> Int} {nu : Int} {i : Nat} (h : ∀ j, j < i -> nD a nu j) (h1 : oH a i < a i) (h2 : a i < nu) : nD a nu i := by
  have h0 := acu h
  refine ⟨by omega, h2, fun hi => ?_⟩
  unfold oH at h1; rw [if_neg (by omega)] at h1; exact h1
theorem akA {a : Nat -> Int} {nu : Int} {i : Nat} (h1 : a i <= oH a i \/ nu <= a i) : ¬ nD a nu i := by
  rintro ⟨g1, g2, g3⟩
  unfold oH at h1
  by_cases hi : i = 0
  · rw [if_pos hi] at h1; omega
  · rw [if_neg hi] at h1; have := g3 (by omega); omega
instance (a : Nat -> Int) (nu : Int) (i : Nat) : Decidable (nD a nu i) := by unfold nD; infer_instance
def Zo (p : eH) (nu : Int) : Prop := ((1 <= p.ch /\ p.ch <= 1000) /\ p.q <= 100 /\ p.k <= 100) /\ (∀ i, i < p.q -> nD p.a nu i) /\ ∀ i, i < p.k -> yM (p.o i) = true
instance (p : eH) (nu : Int) : Decidable (Zo p nu) := by unfold Zo; infer_instance
def tZ (p : eH) (nu : Int) : Bool := decide (Zo p nu)
theorem abx {p : eH} {nu : Int} (h : ¬ ((1 <= p.ch /\ p.ch <= 1000) /\ p.q <= 100 /\ p.k <= 100)) : false = tZ p nu := (decide_eq_false fun g => h g.1).symm
theorem ae8 {p : eH} {nu : Int} {i : Nat} (hi : (i : Int) < p.q) (h : ¬ nD p.a nu i) : false = tZ p nu := (decide_eq_false fun g => h (g.2.1 i (by omega))).symm
theorem abV {p : eH} {nu : Int} {i : Nat} (hi : (i : Int) < p.k) (h : yM (p.o i) = false) : false = tZ p nu := (decide_eq_false fun g => by rw [g.2.2 i (by omega)] at h; cases h).symm
theorem ahb {p : eH} {nu : Int} {i j : Nat} (h : (1 <= p.ch /\ p.ch <= 1000) /\ p.q <= 100 /\ p.k <= 100) (hi : (p.q : Int) <= i) (hai : ∀ i', i' < i -> nD p.a nu i') (hj : (p.k : Int) <= j) (haj : ∀ j', j' < j -> yM (p.o j') = true) : true = tZ p nu :=
  (decide_eq_true ⟨h, fun k hk => hai k (by omega), fun k hk => haj k (by omega)⟩).symm
def Bw (n : ah) : Prop := (n.kd = 1 \/ n.kd = 3) /\ n.un = 0 /\ n.ca = 0 \/ n.kd = 2 /\ n.fr < n.un /\ 0 <= n.un /\ n.un <= 10000000 /\ n.ca = 0 \/ n.kd = 4 /\ n.un = 0 /\ 1 <= n.ca /\ n.ca < n.nu /\ n.n = 0
instance (n : ah) : Decidable (Bw n) := by unfold Bw; infer_instance
def QF (n : ah) : Prop := ((1 <= n.oc /\ n.oc <= 20) /\ (1 <= n.nu /\ n.nu <= 10000) /\ (0 <= n.fr /\ n.fr <= 10000000)) /\ Bw n /\ n.n <= 20
instance (n : ah) : Decidable (QF n) := by unfold QF; infer_instance
def Nc (p : Nat -> eH) (i : Nat) : Int := if i = 0 then 0 else (p (i - 1)).ch
theorem LW (p : Nat -> eH) (i : Nat) : Nc p (i + 1) = (p i).ch := by simp [Nc]
def npO (p : Nat -> eH) (nu : Int) (i : Nat) : Prop := (0 < i -> (p (i - 1)).ch < (p i).ch) /\ tZ (p i) nu = true
instance (p : Nat -> eH) (nu : Int) (i : Nat) : Decidable (npO p nu i) := by unfold npO; infer_instance
def gD (n : ah) : Bool := decide (QF n /\ ∀ i, i < n.n -> npO n.p n.nu i)
theorem aco {p : eH} {nu : Int} (h : tZ p nu = true) : 1 <= p.ch := (of_decide_eq_true h).1.1.1
theorem agv {n : ah} (h : ¬ QF n) : false = gD n := (decide_eq_false fun g => h g.1).symm
theorem ahR {n : ah} {i : Nat} (hi : (i : Int) < n.n) (h : (n.p i).ch <= Nc n.p i \/ tZ (n.p i) n.nu = false) : false = gD n := (decide_eq_false fun g => by
  have g1 := g.2 i (by omega)
  have g2 := aco g1.2
  rcases h with h | h
  · unfold Nc at h
    by_cases h0 : i = 0
    · rw [if_pos h0] at h; omega
    · rw [if_neg h0] at h; have := g1.1 (by omega); omega
  · rw [g1.2] at h; cases h).symm
theorem aom {p : Nat -> eH} {nu : Int} {i : Nat} (h1 : Nc p i < (p i).ch) (h2 : tZ (p i) nu = true) : npO p nu i := by
  refine ⟨fun h0 => ?_, h2⟩
  unfold Nc at h1; rw [if_neg (by omega)] at h1; exact h1
theorem alr {n : ah} {i : Nat} (h : QF n) (hi : (n.n : Int) <= i) (hai : ∀ i', i' < i -> npO n.p n.nu i') : true = gD n := (decide_eq_true ⟨h, fun k hk => hai k (by omega)⟩).symm
theorem aeG (o : fE) (ho : o.f.Ok) : aA Tryz.prog 106 [.agg [.g (.int .i64 (o.kd)), .g (.int .i64 (o.id)), .g (.int .i64 (o.f.id)), .g (.int .i64 (o.f.kd)), .g (.int .i64 (o.f.x)), .g (.int .i64 (o.f.y)), .g (.int .i64 (o.f.r)), .lst 2 o.f.n (eO o.f.P), .g (.int .i64 (o.f.d)), .g (.int .i64 (o.f.s)), .lst 6 o.f.m (eO o.f.S), .g (.int .i64 (o.x)), .g (.int .i64 (o.y)), .g (.int .i64 (o.r)), .g (.int .i64 (o.d)), .g (.int .i64 (o.s))]] (.t (.one (.g (.bool (!yM o))))) := by
  refine ak Tryz.func106 rfl (by rw [Tryz.ntmps106]; simp) ?_
  simp only [Tryz.ntmps106, zM, PT.tv, au, Nat.zero_add, Nat.reduceAdd]
  repeat' (first
 | ((with_reducible show AW _ _ _ _); first
 | (with_reducible first | refine aS (fun K hK => ?_) | refine aT ?_)
 | (first
 | (with_reducible first | refine aP 0 [0] ?_ | refine aP 1 [1] ?_)))
 | (((with_reducible refine Need.mk ?_)); focus (exact True.intro))
 | (with_reducible refine aJ ?_)
 | ((with_reducible show aQ _ _ _ _ _ _ _ _ _ _); first
 | (refine aF (k := 107) DJ (amO _ ho) ?_ ?_))
 | ((fail_if_success (with_reducible show AW _ _ _ _)); simp (maxSteps := 2000000) only [go_sem, reduceIte, reduceCtorEq, xA, xL, xD, xE, xM, xS, xB, Tryz.f106])
 | ((with_reducible refine hK _ ?_); clear hK K))
theorem ajK (p : eH) (nu : Int) (hp : p.Ok) : aA Tryz.prog 53 [.agg [.g (.int .i64 p.ch), .lst 1 p.q (bn p.a), .lst 16 p.k (iR p.o)], .one (.g (.int .i64 nu))] (.t (.one (.g (.bool (tZ p nu))))) := by
  have hpq := hp.q
  have hpk := hp.k
  refine ak Tryz.func53 rfl (by rw [Tryz.ntmps53]; simp) ?_
  simp only [Tryz.ntmps53, zM, PT.tv, au, Nat.zero_add, Nat.reduceAdd]
  repeat' (first
 | ((with_reducible show AW _ _ _ _); first
 | (with_reducible first | refine aS (fun K hK => ?_) | refine aI ?_ | refine aX ?_ | refine aT ?_ | refine aC ?_ | refine aB ?_)
 | (first
 | (with_reducible first | refine aP 0 [0,1] ?_ | refine aP (ops := #[⟨some 8, _, _, _, _, _⟩, _, _, _, _, _, _, _, _, _, _, _, _, _, _, _, _, _, _, _]) 1 [1,2] ?_ | refine aP (ops := #[⟨some 5, _, _, _, _, _⟩, _, _, _, _]) 1 [0,1] ?_ | refine aP (ops := #[⟨some 6, _, _, _, _, _⟩, _, _]) 1 [0,1] ?_ | refine aP (ops := #[⟨some 4, _, _, _, _, _⟩]) 2 [] ?_ | refine aP (ops := #[⟨some 9, _, _, _, _, _⟩]) 2 [0,1,7,8] ?_ | refine aP (ops := #[⟨some 5, _, _, _, _, _⟩]) 3 [1,2] ?_ | refine aP (ops := #[⟨some 10, _, _, _, _, _⟩, _]) 3 [0,1,7,8] ?_ | refine aP (ops := #[⟨some 28, _, _, _, _, _⟩, _, _, _]) 4 [1,2,5] ?_ | refine aP (ops := #[⟨some 11, _, _, _, _, _⟩, _, _, _, _, _]) 4 [0,1,5,7,8] ?_ | refine aP (ops := #[⟨some 32, _, _, _, _, _⟩]) 5 [1,2,5,29,30,31] ?_ | refine aP (ops := #[⟨some 17, _, _, _, _, _⟩, _]) 5 [5] ?_ | refine aP (ops := #[⟨some 33, _, _, _, _, _⟩, _, _]) 6 [1,2,5,29,30,31] ?_ | refine aP (ops := #[⟨some 18, _, _, _, _, _⟩, _]) 6 [0,1,7,8] ?_ | refine aP (ops := #[⟨some 35, _, _, _, _, _⟩, _, _, _, _, _, _, _]) 7 [1,2,5,7,29,30,31] ?_ | refine aP (ops := #[⟨some 4, _, _, _, _, _⟩]) 7 [] ?_ | refine aP 8 [] ?_ | refine aP 9 [1,2,7,29,30,31] ?_ | refine aP 10 [1,2,5,29,30,31] ?_ | refine aP 11 [2] ?_))
 | ((with_reducible show AW _ (Code.loop _) _ _); first
 | ((with_reducible refine aL (c := (Code.seq (Code.region 5 _ _) _)) (ι := Nat) [1,2,29,30] (fun i => [(5, iA .i64 (oH p.a i)), (31, iA .i64 (i : Int))]) (fun i => []) (fun i => i <= p.q /\ (∀ i', i' < i -> nD p.a nu i')) (fun i => p.q - i) 0 ?lg5 ?l15 ?l25 ?li5 ?lr5); (case' lg5 => rintro i _); (case' li5 => try (exact ⟨Nat.zero_le _, fun i hi => absurd hi (Nat.not_lt_zero _)⟩)); (case' lr5 => rintro i ⟨hi, hai⟩ KR hR5; simp only [bI, dI, hset, lk, if_true, if_false, xE, reduceIte, zN, pX]))
 | ((with_reducible refine aL (c := (Code.seq (Code.region 2 _ _) _)) (ι := Nat) [0,1,7] (fun j => [(8, iA .i64 (j : Int))]) (fun j => []) (fun j => j <= p.k /\ (∀ j', j' < j -> yM (p.o j') = true)) (fun j => p.k - j) 0 ?lg2 ?l12 ?l22 ?li2 ?lr2); (case' lg2 => rintro j _); (case' li2 => try (exact ⟨Nat.zero_le _, fun i hi => absurd hi (Nat.not_lt_zero _)⟩)); (case' lr2 => rintro j ⟨hj, haj⟩ KR hR2; simp only [bI, dI, hset, lk, if_true, if_false, xE, reduceIte, zN, pX]))))
 | ((first | (with_reducible refine And.intro ?_ ?_) | (with_reducible refine Need.mk ?_)); focus (first | exact True.intro | omega | (simp; done)))
 | (with_reducible refine aJ ?_)
 | ((with_reducible show bL _ _ _ _ _ _); first
 | ((with_reducible refine aM ?_ ?_) <;> (intro hc; (try simp only [zB, zC, reduceCtorEq] at hc); (try (exfalso; contradiction)))))
 | ((with_reducible show aQ _ _ _ _ _ _ _ _ _ _); first
 | (refine aF (k := 106) Vd (aeG _ (hp.o _ (by omega))) ?_ ?_)
 | ((refine dA (k := 105) Tryz.func105 rfl Bp (by rw [Tryz.ntmps105]; simp) ?_ ?_ (fun K hK => ?_)); (focus (exact True.intro)); (focus ((simp [jF]; done))); simp only [Tryz.ntmps105, List.map_cons, List.map_nil, List.nil_append, List.cons_append, List.append_nil, LV.tv, au, Nat.zero_add, Nat.reduceAdd])
 | ((refine dA (k := 142) Tryz.func142 rfl Ah (by rw [Tryz.ntmps142]; simp) ?_ ?_ (fun K hK => ?_)); (focus (exact True.intro)); (focus ((simp [jF]; done))); simp only [Tryz.ntmps142, List.map_cons, List.map_nil, List.nil_append, List.cons_append, List.append_nil, LV.tv, au, Nat.zero_add, Nat.reduceAdd]))
 | ((with_reducible refine hR5 _ (i + 1) ?_); (try clear hR5 KR))
 | ((with_reducible refine hR2 _ (j + 1) ?_); (try clear hR2 KR))
 | ((with_reducible refine Told.mk ?_); simp only [go_sem, reduceIte, reduceCtorEq, xA, xL, xD, xE, xM, xS, xB, bn, pX] <;> ((((try simp (disch := omega) only [aV, Int.natCast_add, Int.cast_ofNat_Int, and_true, true_and, and_self]); (repeat' (first | omega | rfl | (with_reducible refine And.intro ?_ ?_) | (exact all_succ (by assumption) (by assumption)) | ((exact all_succ (by assumption) (amu (by assumption) (by omega) (by omega)))))); done))))
 | ((fail_if_success (with_reducible show AW _ _ _ _)); simp (maxSteps := 2000000) only [go_sem, reduceIte, reduceCtorEq, xA, xL, xD, xE, xM, xS, xB, Tryz.f53, Tryz.f105, Tryz.f142, bn, pX])
 | ((with_reducible refine hK _ ?_); clear hK K)
 | (with_reducible apply_assumption -exfalso only [*]))
  all_goals (first | exact abx (by omega) | exact ae8 (by assumption) (akA (by omega)) | exact abV (by assumption) (by assumption) | exact ahb (by omega) (by assumption) hai (by assumption) haj)
end Go.Proofs.YtcfechepbamhkaaGreat
set_option maxRecDepth 100000
set_option maxHeartbeats 4000000
namespace Go.Proofs.YtcfechepbamhkaaGreat
open Go.RowKit Go.Sea
open Nat renaming reduceAdd -> xA, reduceLT -> xL, reduceLeDiff -> xD, reduceEqDiff -> xE, reduceMul -> xM, reduceSub -> xS, reduceBEq -> xB
theorem amG : Ho Tryz.prog 26 = none := by kernel_rfl
theorem zS : aN Tryz.prog 51 = true := by kernel_rfl
theorem Nj : aN Tryz.prog 52 = true := by kernel_rfl
theorem OE : aN Tryz.prog 53 = true := by kernel_rfl
theorem amw : xH Tryz.prog 26 = some true := by kernel_rfl
theorem abL : dF Tryz.prog 28 0 = some 0 := by kernel_rfl
theorem afe : dF Tryz.prog 28 1 = some 1 := by kernel_rfl
theorem abG : dF Tryz.prog 28 2 = some 2 := by kernel_rfl
theorem aa6 : dF Tryz.prog 28 3 = some 3 := by kernel_rfl
theorem abR : dF Tryz.prog 28 4 = some 4 := by kernel_rfl
theorem aa1 : dF Tryz.prog 28 5 = some 5 := by kernel_rfl
theorem adL : dF Tryz.prog 28 6 = some 6 := by kernel_rfl
theorem amh : qX Tryz.prog 26 = some (3, 56, 58) := by kernel_rfl
theorem amd : lQ Tryz.prog 26 = some (false, 1) := by kernel_rfl
theorem am0 : lQ Tryz.prog 28 = some (true, 7) := by kernel_rfl
theorem alD : lQ Tryz.prog 58 = some (true, 3) := by kernel_rfl
theorem aj4 : fV Tryz.prog 58 = some [.iv (.g (.int .i64 0)), .iv (.g (.slice none 0 0)), .iv (.g (.slice none 0 0))] := by kernel_rfl
attribute [go_sem] amG zS Nj OE amw abL afe abG aa6 abR aa1 adL amh amd am0 alD aj4
theorem agx {n : ah} (h : (((((1 <= n.oc /\ n.oc <= 20) /\ 1 <= n.nu) /\ n.nu <= 10000) /\ 0 <= n.fr /\ n.fr <= 10000000) /\ Bw n) /\ (n.n : Int) <= 20) : QF n := ⟨⟨h.1.1.1.1.1, ⟨h.1.1.1.1.2, h.1.1.1.2⟩, h.1.1.2⟩, h.1.2, by omega⟩
theorem ain {n : ah} (h : (((((n.oc < 1 \/ n.oc > 20) \/ n.nu < 1) \/ n.nu > 10000) \/ ¬ (0 <= n.fr /\ n.fr <= 10000000)) \/ ¬ Bw n) \/ (n.n : Int) > 20) : false = gD n := agv fun g => by
  have g1 := g.1
  have g2 := g.2.1
  have g3 := g.2.2
  rcases h with (h | h) | h
  · omega
  · exact h g2
  · omega
theorem Bd (t : Int) : aA Tryz.prog 51 [.one (.g (.int .i64 t))] (.t (.one (.g (.bool (decide (0 <= t /\ t <= 10000000)))))) := by
  refine ak Tryz.func51 rfl (by rw [Tryz.ntmps51]; simp) ?_
  simp only [Tryz.ntmps51, zM, PT.tv, au, Nat.zero_add, Nat.reduceAdd]
  repeat' (first
 | ((with_reducible show AW _ _ _ _); first
 | (with_reducible first | refine aS (fun K hK => ?_) | refine aT ?_)
 | (first
 | (with_reducible first | refine aP 0 [0] ?_ | refine aP 1 [0] ?_)))
 | (with_reducible refine aJ ?_)
 | ((fail_if_success (with_reducible show AW _ _ _ _)); simp (maxSteps := 2000000) only [go_sem, reduceIte, reduceCtorEq, xA, xL, xD, xE, xM, xS, xB, Tryz.f51])
 | ((with_reducible refine hK _ ?_); clear hK K))
  all_goals ((try refine Bool.eq_iff_iff.2 ?_); (simp only [Bool.and_eq_true, Bool.or_eq_true, Bool.not_eq_true', decide_eq_true_eq, decide_eq_false_iff_not, bne_iff_ne, beq_iff_eq, ne_eq, ge_iff_le, gt_iff_lt, cond_eq_ite, iff_self, eq_self]; done))
theorem aiB (n : ah) (ho : n.Ok) : aA Tryz.prog 52 [(DV n)] (.t (.one (.g (.bool (decide (Bw n)))))) := by
  refine ak Tryz.func52 rfl (by rw [Tryz.ntmps52]; simp) ?_
  simp only [DV, Tryz.ntmps52, zM, PT.tv, au, Nat.zero_add, Nat.reduceAdd]
  repeat' (first
 | ((with_reducible show AW _ _ _ _); first
 | (with_reducible first | refine aS (fun K hK => ?_) | refine aI ?_ | refine aT ?_ | refine aC ?_ | refine aB ?_)
 | (first
 | (with_reducible first | refine aP 0 [0] ?_ | refine aP 1 [1] ?_ | refine aP 2 [1,4] ?_ | refine aP 3 [1,4] ?_ | refine aP 4 [1] ?_ | refine aP 5 [1,4] ?_ | refine aP 6 [1] ?_ | refine aP 7 [1,4] ?_ | refine aP 8 [1] ?_ | refine aP 9 [] ?_)))
 | (((with_reducible refine Need.mk ?_)); focus ((intro _; (with_reducible assumption))))
 | (with_reducible refine aJ ?_)
 | ((with_reducible show bL _ _ _ _ _ _); first
 | ((with_reducible refine aM ?_ ?_) <;> (intro hc; (try simp only [zB, zC, reduceCtorEq] at hc); (try (exfalso; contradiction)))))
 | ((with_reducible show bG _ _ _ _ _ _ _ _ _ _); first
 | (refine aO (k := 51) zS (fun hg => Bd _) ?_ ?_))
 | ((fail_if_success (with_reducible show AW _ _ _ _)); simp (maxSteps := 2000000) only [go_sem, reduceIte, reduceCtorEq, xA, xL, xD, xE, xM, xS, xB, Tryz.f52])
 | ((with_reducible refine hK _ ?_); clear hK K))
  all_goals ((refine Bool.eq_iff_iff.2 ?_; simp only [Bool.and_eq_true, beq_iff_eq, decide_eq_true_eq, reduceCtorEq, false_iff]; unfold Bw; omega))
theorem nX (n : ah) (ho : n.Ok) : aA Tryz.prog 18 [(DV n)] (.t (.one (.g (.bool (gD n))))) := by
  have hnn := ho.n
  refine ak Tryz.func18 rfl (by rw [Tryz.ntmps18]; simp) ?_
  simp only [DV, Tryz.ntmps18, zM, PT.tv, au, Nat.zero_add, Nat.reduceAdd]
  repeat' (first
 | ((with_reducible show AW _ _ _ _); first
 | (with_reducible first | refine aS (fun K hK => ?_) | refine aI ?_ | refine aX ?_ | refine aT ?_ | refine aC ?_ | refine aB ?_)
 | (first
 | (with_reducible first | refine aP 0 [0] ?_ | refine aP 1 [1] ?_ | refine aP 2 [] ?_ | refine aP 3 [1] ?_ | refine aP 4 [1,3] ?_ | refine aP 5 [1,3,42,43,44] ?_ | refine aP 6 [1,3,42,43,44] ?_ | refine aP 7 [1,3,5,42,43,44] ?_ | refine aP 8 [] ?_ | refine aP 9 [1,5,42,43,44] ?_ | refine aP 10 [1,3,42,43,44] ?_ | refine aP 11 [] ?_))
 | ((with_reducible show AW _ (Code.loop _) _ _); first
 | ((with_reducible refine aL (c := (Code.seq (Code.region 5 _ _) _)) (ι := Nat) [1,42,43] (fun i => [(3, iA .i64 (Nc n.p i)), (44, iA .i64 (i : Int))]) (fun i => []) (fun i => i <= n.n /\ (∀ i', i' < i -> npO n.p n.nu i')) (fun i => n.n - i) 0 ?lg5 ?l15 ?l25 ?li5 ?lr5); (case' lg5 => rintro i _); (case' li5 => try (exact ⟨Nat.zero_le _, fun i hi => absurd hi (Nat.not_lt_zero _)⟩)); (case' lr5 => rintro i ⟨hi, hai⟩ KR hR5; simp only [bI, dI, hset, lk, if_true, if_false, xE, reduceIte, zN, LW]))))
 | ((first | (with_reducible refine And.intro ?_ ?_) | (with_reducible refine Need.mk ?_)); focus (first | omega | (intro _; (with_reducible assumption)) | (simp; done)))
 | (with_reducible refine aJ ?_)
 | ((with_reducible show bL _ _ _ _ _ _); first
 | ((with_reducible refine aM ?_ ?_) <;> (intro hc; (try simp only [zB, zC, reduceCtorEq] at hc); (try (exfalso; contradiction)))))
 | ((with_reducible show bG _ _ _ _ _ _ _ _ _ _); first
 | (refine aO (k := 51) zS (fun hg => Bd _) ?_ ?_)
 | (refine aO (k := 52) Nj (fun hg => aiB n ho) ?_ ?_)
 | (refine aO (k := 53) OE (fun hg => ajK (n.p i) n.nu (ho.p i (by omega))) ?_ ?_))
 | ((with_reducible refine hR5 _ (i + 1) ?_); (try clear hR5 KR))
 | ((with_reducible refine Told.mk ?_); simp only [go_sem, reduceIte, reduceCtorEq, xA, xL, xD, xE, xM, xS, xB, bn, LW] <;> ((((try simp (disch := omega) only [aV, Int.natCast_add, Int.cast_ofNat_Int, and_true, true_and, and_self]); (repeat' (first | omega | rfl | (with_reducible refine And.intro ?_ ?_) | ((exact all_succ (by assumption) (aom hc.1 hc.2))))); done))))
 | ((fail_if_success (with_reducible show AW _ _ _ _)); simp (maxSteps := 2000000) only [go_sem, reduceIte, reduceCtorEq, xA, xL, xD, xE, xM, xS, xB, Tryz.f18, bn, LW])
 | ((with_reducible refine hK _ ?_); clear hK K)
 | (with_reducible apply_assumption -exfalso only [*]))
  all_goals (first | exact ain hc | exact ahR (by assumption) hc | exact alr (agx (by assumption)) (by assumption) hai)
end Go.Proofs.YtcfechepbamhkaaGreat
namespace Go.Proofs.YtcfechepbamhkaaGreat
open Go.RowKit Go.Sea
open Nat renaming reduceAdd -> xA, reduceLT -> xL, reduceLeDiff -> xD, reduceEqDiff -> xE, reduceMul -> xM, reduceSub -> xS, reduceBEq -> xB
theorem amB : Ho Tryz.prog 37 = none := by kernel_rfl
theorem amW : xH Tryz.prog 37 = some true := by kernel_rfl
theorem akm : qX Tryz.prog 37 = some (9, 104, 64) := by kernel_rfl
attribute [go_sem] amB amW akm
def ZE : aZ -> Nat -> IV
  | f, 0 => .g (.int .i64 (f.id))
  | f, 1 => .g (.int .i64 (f.kd))
  | f, 2 => .g (.int .i64 (f.x))
  | f, 3 => .g (.int .i64 (f.y))
  | f, 4 => .g (.int .i64 (f.r))
  | f, 5 => .lst 2 f.n (eO f.P)
  | f, 6 => .g (.int .i64 (f.d))
  | f, 7 => .g (.int .i64 (f.s))
  | f, _ + 8 => .lst 6 f.m (eO f.S)
def dN (f : Nat -> aZ) (i c : Nat) : IV := ZE (f i) c
theorem ajS (f : Nat -> aZ) (i : Nat) : dN f i 0 = .g (.int .i64 ((f i).id)) := rfl
theorem ajk (f : Nat -> aZ) (i : Nat) : dN f i 1 = .g (.int .i64 ((f i).kd)) := rfl
theorem ah0 (f : Nat -> aZ) (i : Nat) : dN f i 2 = .g (.int .i64 ((f i).x)) := rfl
theorem agz (f : Nat -> aZ) (i : Nat) : dN f i 3 = .g (.int .i64 ((f i).y)) := rfl
theorem ahZ (f : Nat -> aZ) (i : Nat) : dN f i 4 = .g (.int .i64 ((f i).r)) := rfl
theorem agP (f : Nat -> aZ) (i : Nat) : dN f i 5 = .lst 2 (f i).n (eO (f i).P) := rfl
theorem agN (f : Nat -> aZ) (i : Nat) : dN f i 6 = .g (.int .i64 ((f i).d)) := rfl
theorem ajQ (f : Nat -> aZ) (i : Nat) : dN f i 7 = .g (.int .i64 ((f i).s)) := rfl
theorem ag3 (f : Nat -> aZ) (i : Nat) : dN f i 8 = .lst 6 (f i).m (eO (f i).S) := rfl
attribute [go_sem] ajS ajk ah0 agz ahZ agP agN ajQ ag3
def LJ (f : Nat -> aZ) (i : Nat) : Int := if i = 0 then 0 else (f (i - 1)).id
theorem KU (f : Nat -> aZ) (i : Nat) : LJ f (i + 1) = (f i).id := by simp [LJ]
def Qo (f : Nat -> aZ) (i : Nat) : Prop := jv (f i) = true /\ (0 < i -> (f (i - 1)).id < (f i).id)
instance (f : Nat -> aZ) (i : Nat) : Decidable (Qo f i) := by unfold Qo; infer_instance
def oP (n : Nat) (f : Nat -> aZ) : Bool := decide (n <= 300 /\ ∀ i, i < n -> Qo f i)
theorem afk {f : aZ} (h : jv f = true) : 1 <= f.id := ((jW f).1 h).1.1
theorem ak1 {n : Nat} {f : Nat -> aZ} {i : Nat} (hi : (i : Int) < n) (h : jv (f i) = false \/ (f i).id <= LJ f i) : false = oP n f := (decide_eq_false fun g => by
  have g1 := g.2 i (by omega)
  rcases h with h | h
  · rw [g1.1] at h; cases h
  · have := afk g1.1
    unfold LJ at h
    by_cases h0 : i = 0
    · rw [if_pos h0] at h; omega
    · rw [if_neg h0] at h; have := g1.2 (by omega); omega).symm
theorem amX {f : Nat -> aZ} {i : Nat} (h : jv (f i) = true /\ LJ f i < (f i).id) : Qo f i := by
  refine ⟨h.1, fun h0 => ?_⟩
  have := h.2
  unfold LJ at this; rw [if_neg (by omega)] at this; exact this
theorem akY {n : Nat} {f : Nat -> aZ} {i : Nat} (hi : (n : Int) <= i) (g : ∀ i', i' < i -> Qo f i') : decide ((n : Int) <= 300) = oP n f := by
  unfold oP; exact decide_eq_decide.2 ⟨fun h => ⟨by omega, fun k hk => g k (by omega)⟩, fun h => by omega⟩
structure rT where
  A : Int
  B : Int
  C : Int
  D : Int
  E : Int
  F : Int
  R : Int
def LQ (m : rT) : Prop := ((-2000000 <= m.A /\ m.A <= 2000000) /\ (-2000000 <= m.B /\ m.B <= 2000000) /\ (-2000000 <= m.D /\ m.D <= 2000000) /\ (-2000000 <= m.E /\ m.E <= 2000000)) /\ 250000000000 <= m.A * m.E - m.B * m.D /\ (-100000 <= m.C /\ m.C <= 100000) /\ (-100000 <= m.F /\ m.F <= 100000) /\ (0 <= m.R /\ m.R <= 1000)
instance (m : rT) : Decidable (LQ m) := by unfold LQ; infer_instance
def PX (m : rT) : Bool := decide (LQ m)
structure aH where
  ch : Int
  sc : Int
  ed : Int
  m : rT
  cap : Int
  q : Nat
  dn : Nat -> Int
  n : Nat
  f : Nat -> aZ
structure aH.Ok (s : aH) : Prop where
  q : s.q <= 9223372036854775807
  n : s.n <= 9223372036854775807
  f : ∀ i, i < s.n -> (s.f i).Ok
def yT (q : Nat) (a : Nat -> Int) : Bool := decide (q <= 200 /\ ∀ i, i < q -> nD a 10001 i)
def gU (s : aH) : Bool := yT s.q s.dn && decide ((1 <= s.ch /\ s.ch <= 1000) /\ (1 <= s.sc /\ s.sc <= 1000) /\ (1 <= s.ed /\ s.ed <= 1000) /\ (1 <= s.cap /\ s.cap <= 100000)) && PX s.m && oP s.n s.f
def qy (s : aH) : PT := .agg [.g (.int .i64 s.ch), .g (.int .i64 s.sc), .g (.int .i64 s.ed), .g (.int .i64 s.m.A), .g (.int .i64 s.m.B), .g (.int .i64 s.m.C), .g (.int .i64 s.m.D), .g (.int .i64 s.m.E), .g (.int .i64 s.m.F), .g (.int .i64 s.m.R), .g (.int .i64 s.cap), .lst 1 s.q (bn s.dn), .lst 9 s.n (dN s.f)]
attribute [go_sem] qy
set_option maxRecDepth 100000 in
set_option maxHeartbeats 4000000 in
theorem za (n : Nat) (f : Nat -> aZ) (hn : n <= 9223372036854775807) (hf : ∀ i, i < n -> (f i).Ok) : aA Tryz.prog 95 [.one (.lst 9 n (dN f))] (.t (.one (.g (.bool (oP n f))))) := by
  refine ak Tryz.func95 rfl (by rw [Tryz.ntmps95]; simp) ?_
  simp only [Tryz.ntmps95, zM, PT.tv, au, Nat.zero_add, Nat.reduceAdd]
  repeat' (first
 | ((with_reducible show AW _ _ _ _); first
 | (with_reducible first | refine aS (fun K hK => ?_) | refine aI ?_ | refine aX ?_ | refine aT ?_ | refine aC ?_ | refine aB ?_)
 | (first
 | (with_reducible first | refine aP 0 [0] ?_ | refine aP 1 [0] ?_ | refine aP 2 [0,3] ?_ | refine aP 3 [0,3,6,7,8] ?_ | refine aP 4 [0,3,6,7,8] ?_ | refine aP 5 [0,3,5,6,7,8] ?_ | refine aP 6 [] ?_ | refine aP 7 [0,5,6,7,8] ?_ | refine aP 8 [0,3,6,7,8] ?_ | refine aP 9 [0] ?_))
 | ((with_reducible show AW _ (Code.loop _) _ _); first
 | ((with_reducible refine aL (c := (Code.seq (Code.region 3 _ _) _)) (ι := Nat) [0,6,7] (fun i => [(3, iA .i64 (LJ f i)), (8, iA .i64 (i : Int))]) (fun i => []) (fun i => i <= n /\ (∀ i', i' < i -> Qo f i')) (fun i => n - i) 0 ?lg3 ?l13 ?l23 ?li3 ?lr3); (case' lg3 => rintro i _); (case' li3 => try (exact ⟨Nat.zero_le _, fun i hi => absurd hi (Nat.not_lt_zero _)⟩)); (case' lr3 => rintro i ⟨hi, hai⟩ KR hR3; simp only [bI, dI, hset, lk, if_true, if_false, xE, reduceIte, zN, KU]))))
 | ((first | (with_reducible refine And.intro ?_ ?_) | (with_reducible refine Need.mk ?_)); focus (first | exact True.intro | omega | (simp; done)))
 | (with_reducible refine aJ ?_)
 | ((with_reducible show bL _ _ _ _ _ _); first
 | ((with_reducible refine aM ?_ ?_) <;> (intro hc; (try simp only [zB, zC, reduceCtorEq] at hc); (try (exfalso; contradiction)))))
 | ((with_reducible show aQ _ _ _ _ _ _ _ _ _ _); first
 | (refine aF (k := 133) Dq (ZP (f i) (hf i (by omega))) ?_ ?_))
 | ((with_reducible refine hR3 _ (i + 1) ?_); (try clear hR3 KR))
 | ((with_reducible refine Told.mk ?_); simp only [go_sem, reduceIte, reduceCtorEq, xA, xL, xD, xE, xM, xS, xB, KU] <;> ((((try simp (disch := omega) only [aV, Int.natCast_add, Int.cast_ofNat_Int, and_true, true_and, and_self]); (repeat' (first | omega | rfl | (with_reducible refine And.intro ?_ ?_) | ((exact all_succ (by assumption) (amX hc))))); done))))
 | ((fail_if_success (with_reducible show AW _ _ _ _)); simp (maxSteps := 2000000) only [go_sem, reduceIte, reduceCtorEq, xA, xL, xD, xE, xM, xS, xB, Tryz.f95, KU])
 | ((with_reducible refine hK _ ?_); clear hK K)
 | (with_reducible apply_assumption -exfalso only [*]))
  all_goals first | exact ak1 (by assumption) hc | exact akY (by assumption) hai | skip
end Go.Proofs.YtcfechepbamhkaaGreat
set_option maxRecDepth 100000
set_option maxHeartbeats 4000000
namespace Go.Proofs.YtcfechepbamhkaaGreat
open Go.RowKit Go.Sea
open Nat renaming reduceAdd -> xA, reduceLT -> xL, reduceLeDiff -> xD, reduceEqDiff -> xE, reduceMul -> xM, reduceSub -> xS, reduceBEq -> xB
theorem VH : aN Tryz.prog 174 = true := by kernel_rfl
theorem Ii : aN Tryz.prog 175 = true := by kernel_rfl
theorem uf : aN Tryz.prog 227 = true := by kernel_rfl
attribute [go_sem] Ii uf
def l7 (f : aZ) (o : fE) : Int := if (o.kd = 3 /\ ((f.kd = 3 \/ f.kd = 6) \/ f.kd = 4 /\ o.r ≠ 0)) \/ (o.kd = 4 /\ (f.kd = 4 \/ f.kd = 6)) then 12 else 0
def mQ (f : aZ) (o : fE) : aZ := if o.kd = 3 then { f with x := o.x, y := o.y, r := o.r } else if o.kd = 4 then { f with d := o.d } else if o.kd = 5 then { f with s := o.s } else f
def idx (L : List aZ) (k : Int) : Option aZ := L.find? fun f => f.id = k
def nG (L : List aZ) (f : aZ) : List aZ := L.filter (fun g => g.id < f.id) ++ f :: L.filter (fun g => f.id < g.id)
def oK (L : List aZ) (k : Int) : List aZ := L.filter fun g => g.id ≠ k
def vw (L : List aZ) : Prop := L.Pairwise fun f g => f.id < g.id
def ow (L : List aZ) (o : fE) : Int × List aZ :=
  if o.kd = 1 then (match idx L o.id with
    | some _ => (5, L)
    | none => if 300 <= L.length then (2, L) else (0, nG L o.f))
  else match idx L o.id with
    | none => (4, L)
    | some f => if o.kd = 2 then (0, oK L o.id) else if l7 f o = 0 then (0, nG (oK L o.id) (mQ f o)) else (l7 f o, L)
theorem NV (f : aZ) (o : fE) : (mQ f o).id = f.id := by
  unfold mQ; repeat' split
  all_goals rfl
theorem kT {L : List aZ} {k : Int} {f : aZ} (h : idx L k = some f) : f ∈ L /\ f.id = k := by
  have h1 := List.find?_some h
  exact ⟨List.mem_of_find?_eq_some h, by simpa using h1⟩
theorem pI {L : List aZ} {k : Int} : idx L k = none ↔ ∀ f, f ∈ L -> f.id ≠ k := by
  unfold idx; rw [List.find?_eq_none]; simp
theorem qK {L : List aZ} (h : vw L) {f : aZ} (hf : f ∈ L) : idx L f.id = some f := by
  induction L with
  | nil => cases hf
  | cons g L ih =>
    have h1 := List.pairwise_cons.1 h
    unfold idx
    rw [List.find?_cons]
    rcases List.mem_cons.1 hf with e | e
    · subst e; simp
    · have := h1.1 f e
      rw [decide_eq_false (by omega)]
      exact ih h1.2 e
theorem sj {L : List aZ} (h : vw L) (p : aZ -> Bool) : vw (L.filter p) := List.Pairwise.filter p h
theorem zP {L : List aZ} (h : vw L) (k : Int) : vw (oK L k) := sj h _
theorem zG {L : List aZ} (h : vw L) (f : aZ) : vw (nG L f) := by
  unfold nG vw
  rw [List.pairwise_append]
  refine ⟨sj h _, List.pairwise_cons.2 ⟨fun g hg => ?_, sj h _⟩, fun a ha b hb => ?_⟩
  · simpa using (List.mem_filter.1 hg).2
  · have h1 : a.id < f.id := by simpa using (List.mem_filter.1 ha).2
    rcases List.mem_cons.1 hb with e | e
    · subst e; exact h1
    · have h2 : f.id < b.id := by simpa using (List.mem_filter.1 e).2
      omega
theorem zn {L : List aZ} {f g : aZ} : g ∈ nG L f ↔ g = f \/ (g ∈ L /\ g.id ≠ f.id) := by
  unfold nG
  simp only [List.mem_append, List.mem_cons, List.mem_filter, decide_eq_true_eq]
  constructor
  · rintro (⟨h1, h2⟩ | h | ⟨h1, h2⟩)
    · exact Or.inr ⟨h1, by omega⟩
    · exact Or.inl h
    · exact Or.inr ⟨h1, by omega⟩
  · rintro (h | ⟨h1, h2⟩)
    · exact Or.inr (Or.inl h)
    · rcases Int.lt_or_lt_of_ne h2 with h3 | h3
      · exact Or.inl ⟨h1, h3⟩
      · exact Or.inr (Or.inr ⟨h1, h3⟩)
theorem zV {L : List aZ} {k : Int} {g : aZ} : g ∈ oK L k ↔ g ∈ L /\ g.id ≠ k := by
  unfold oK; simp [List.mem_filter]
theorem O6 {L : List aZ} (h : vw L) (f : aZ) (k : Int) : idx (nG L f) k = if k = f.id then some f else idx L k := by
  by_cases hk : k = f.id
  · rw [if_pos hk, hk]; exact qK (zG h f) (zn.2 (Or.inl rfl))
  · rw [if_neg hk]
    cases hi : idx L k with
    | none =>
      rw [pI] at hi ⊢
      intro g hg
      rcases zn.1 hg with e | e
      · subst e; exact fun h' => hk h'.symm
      · exact hi g e.1
    | some g =>
      obtain ⟨h1, h2⟩ := kT hi
      rw [<- h2]
      exact qK (zG h f) (zn.2 (Or.inr ⟨h1, by omega⟩))
theorem zA {L : List aZ} (h : vw L) (c k : Int) : idx (oK L c) k = if k = c then none else idx L k := by
  by_cases hk : k = c
  · rw [if_pos hk, hk, pI]
    intro g hg; exact (zV.1 hg).2
  · rw [if_neg hk]
    cases hi : idx L k with
    | none =>
      rw [pI] at hi ⊢
      intro g hg; exact hi g (zV.1 hg).1
    | some g =>
      obtain ⟨h1, h2⟩ := kT hi
      rw [<- h2]
      exact qK (zP h c) (zV.2 ⟨h1, by omega⟩)
theorem Gd {L : List aZ} (h : vw L) {k : Int} {f : aZ} (hf : idx L k = some f) : (oK L k).length + 1 = L.length := by
  induction L with
  | nil => simp [idx] at hf
  | cons g L ih =>
    have h1 := List.pairwise_cons.1 h
    unfold oK
    rw [List.filter_cons]
    by_cases hg : g.id = k
    · have e : L.filter (fun g => decide (g.id ≠ k)) = L := List.filter_eq_self.2 fun a ha => by
        have := h1.1 a ha
        simp; omega
      rw [if_neg (by simp [hg]), e]; rfl
    · have hf' : idx L k = some f := by
        unfold idx at hf ⊢
        rw [List.find?_cons, decide_eq_false hg] at hf
        exact hf
      have := ih h1.2 hf'
      unfold oK at this
      simp [hg]; simpa using this
theorem zY {L : List aZ} {f : aZ} (hf : idx L f.id = none) : (nG L f).length = L.length + 1 := by
  have h := pI.1 hf
  clear hf
  unfold nG
  rw [List.length_append, List.length_cons]
  induction L with
  | nil => rfl
  | cons g L ih =>
    have h1 := h g (List.mem_cons_self ..)
    have h2 := ih fun a ha => h a (List.mem_cons_of_mem _ ha)
    rw [List.filter_cons, List.filter_cons]
    rcases Int.lt_or_lt_of_ne h1 with h3 | h3
    · have h4 : ¬ f.id < g.id := by omega
      simp [h3, h4] at h2 ⊢; omega
    · have h4 : ¬ g.id < f.id := by omega
      simp [h3, h4] at h2 ⊢; omega
theorem Pn : ∀ {l m : List Int}, l.Pairwise (· < ·) -> m.Pairwise (· < ·) -> (∀ x, x ∈ l ↔ x ∈ m) -> l = m
  | [], [], _, _, _ => rfl
  | [], b :: m, _, _, h => absurd ((h b).2 (List.mem_cons_self ..)) (List.not_mem_nil)
  | a :: l, [], _, _, h => absurd ((h a).1 (List.mem_cons_self ..)) (List.not_mem_nil)
  | a :: l, b :: m, hl, hm, h => by
    have hl1 := List.pairwise_cons.1 hl
    have hm1 := List.pairwise_cons.1 hm
    have hab : a = b := by
      have h1 := (h a).1 (List.mem_cons_self ..)
      have h2 := (h b).2 (List.mem_cons_self ..)
      rcases List.mem_cons.1 h1 with e | e
      · exact e
      · rcases List.mem_cons.1 h2 with e2 | e2
        · exact e2.symm
        · have := hl1.1 b e2
          have := hm1.1 a e
          omega
    subst hab
    have : l = m := Pn hl1.2 hm1.2 fun x => by
      constructor
      · intro hx
        have h1 := hl1.1 x hx
        rcases List.mem_cons.1 ((h x).1 (List.mem_cons_of_mem _ hx)) with e | e
        · omega
        · exact e
      · intro hx
        have h1 := hm1.1 x hx
        rcases List.mem_cons.1 ((h x).2 (List.mem_cons_of_mem _ hx)) with e | e
        · omega
        · exact e
    rw [this]
theorem N9 {L : List aZ} (h : vw L) : (L.map (·.id)).Pairwise (· < ·) := List.pairwise_map.2 h
theorem Pz {L : List aZ} (h : vw L) {ks : List Int} (hk : ks.Pairwise (· < ·)) (hm : ∀ x, x ∈ ks ↔ idx L x ≠ none) : ks = L.map (·.id) := by
  refine Pn hk (N9 h) fun x => ?_
  rw [hm]
  constructor
  · intro hx
    cases hi : idx L x with
    | none => exact absurd hi hx
    | some f => exact List.mem_map.2 ⟨f, kT hi⟩
  · intro hx
    obtain ⟨f, h1, h2⟩ := List.mem_map.1 hx
    rw [<- h2, qK h h1]; simp
theorem ad4 {L : List aZ} (h : vw L) (o : fE) : vw (ow L o).2 := by
  unfold ow
  repeat' split
  all_goals first | exact h | exact zG h _ | exact zP h _ | exact zG (zP h _) _
def D7 (k : Nat) (o : Nat -> fE) : Bool := decide (k <= 100 /\ ∀ i, i < k -> yM (o i) = true)
def jI (f : aZ) (o : fE) : fE := if l7 f o ≠ 0 then ⟨o.kd, o.id, eF, 0, 0, 0, 0, 0⟩ else if o.kd = 3 then ⟨o.kd, o.id, eF, f.x, f.y, f.r, 0, 0⟩ else if o.kd = 4 then ⟨o.kd, o.id, eF, 0, 0, 0, f.d, 0⟩ else ⟨o.kd, o.id, eF, 0, 0, 0, 0, f.s⟩
def fT (f : aZ) (o : fE) : aZ := if l7 f o ≠ 0 then f else mQ f o
theorem YV {f : aZ} {o : fE} (h : (o.kd = 3 /\ ((f.kd = 3 \/ f.kd = 6) \/ f.kd = 4 /\ o.r ≠ 0)) \/ (o.kd = 4 /\ (f.kd = 4 \/ f.kd = 6))) : l7 f o = 12 /\ fT f o = f /\ jI f o = ⟨o.kd, o.id, eF, 0, 0, 0, 0, 0⟩ := by
  have e : l7 f o = 12 := by unfold l7; rw [if_pos h]
  exact ⟨e, by unfold fT; rw [if_pos (by omega)], by unfold jI; rw [if_pos (by omega)]⟩
theorem uN {f : aZ} {o : fE} (h : ¬ ((o.kd = 3 /\ ((f.kd = 3 \/ f.kd = 6) \/ f.kd = 4 /\ o.r ≠ 0)) \/ (o.kd = 4 /\ (f.kd = 4 \/ f.kd = 6)))) : l7 f o = 0 /\ fT f o = mQ f o := by
  have e : l7 f o = 0 := by unfold l7; rw [if_neg h]
  exact ⟨e, by unfold fT; rw [if_neg (by omega)]⟩
theorem WM {f : aZ} {o : fE} (he : l7 f o = 0) (h : o.kd = 3) : mQ f o = { f with x := o.x, y := o.y, r := o.r } /\ jI f o = ⟨o.kd, o.id, eF, f.x, f.y, f.r, 0, 0⟩ := ⟨by unfold mQ; rw [if_pos h], by unfold jI; rw [if_neg (by omega), if_pos h]⟩
theorem XJ {f : aZ} {o : fE} (he : l7 f o = 0) (h : o.kd = 4) : mQ f o = { f with d := o.d } /\ jI f o = ⟨o.kd, o.id, eF, 0, 0, 0, f.d, 0⟩ := ⟨by unfold mQ; rw [if_neg (by omega), if_pos h], by unfold jI; rw [if_neg (by omega), if_neg (by omega), if_pos h]⟩
theorem TP {f : aZ} {o : fE} (he : l7 f o = 0) (h : o.kd = 5) : mQ f o = { f with s := o.s } /\ jI f o = ⟨o.kd, o.id, eF, 0, 0, 0, 0, f.s⟩ := ⟨by unfold mQ; rw [if_neg (by omega), if_neg (by omega), if_pos h], by unfold jI; rw [if_neg (by omega), if_neg (by omega), if_neg (by omega)]⟩
theorem GK (f : aZ) (ho : f.Ok) : aA Tryz.prog 227 [.agg [.g (.int .i64 (f.id)), .g (.int .i64 (f.kd)), .g (.int .i64 (f.x)), .g (.int .i64 (f.y)), .g (.int .i64 (f.r)), .lst 2 f.n (eO f.P), .g (.int .i64 (f.d)), .g (.int .i64 (f.s)), .lst 6 f.m (eO f.S)]] (.t (.one (.g (.bool (decide (f.kd = 3 \/ f.kd = 6)))))) := by
  refine ak Tryz.func227 rfl (by rw [Tryz.ntmps227]; simp) ?_
  simp only [Tryz.ntmps227, zM, PT.tv, au, Nat.zero_add, Nat.reduceAdd]
  repeat' (first
 | ((with_reducible show AW _ _ _ _); first
 | (with_reducible first | refine aS (fun K hK => ?_) | refine aT ?_)
 | (first
 | (with_reducible first | refine aP 0 [0] ?_ | refine aP 1 [1] ?_)))
 | (((with_reducible refine And.intro ?_ ?_)); focus ((simp; done)))
 | (with_reducible refine aJ ?_)
 | ((fail_if_success (with_reducible show AW _ _ _ _)); simp (maxSteps := 2000000) only [go_sem, reduceIte, reduceCtorEq, xA, xL, xD, xE, xM, xS, xB, Tryz.f227])
 | ((with_reducible refine hK _ ?_); clear hK K))
  all_goals ((try refine Bool.eq_iff_iff.2 ?_); (simp only [Bool.and_eq_true, Bool.or_eq_true, Bool.not_eq_true', decide_eq_true_eq, decide_eq_false_iff_not, bne_iff_ne, beq_iff_eq, ne_eq, ge_iff_le, gt_iff_lt, cond_eq_ite, iff_self, eq_self]; done))
theorem QA (f : aZ) (o : fE) (ho : f.Ok) (ho2 : o.f.Ok) (hk : o.kd = 3) : aA Tryz.prog 207 [.agg [.g (.int .i64 (f.id)), .g (.int .i64 (f.kd)), .g (.int .i64 (f.x)), .g (.int .i64 (f.y)), .g (.int .i64 (f.r)), .lst 2 f.n (eO f.P), .g (.int .i64 (f.d)), .g (.int .i64 (f.s)), .lst 6 f.m (eO f.S)], .agg [.g (.int .i64 (o.kd)), .g (.int .i64 (o.id)), .g (.int .i64 (o.f.id)), .g (.int .i64 (o.f.kd)), .g (.int .i64 (o.f.x)), .g (.int .i64 (o.f.y)), .g (.int .i64 (o.f.r)), .lst 2 o.f.n (eO o.f.P), .g (.int .i64 (o.f.d)), .g (.int .i64 (o.f.s)), .lst 6 o.f.m (eO o.f.S), .g (.int .i64 (o.x)), .g (.int .i64 (o.y)), .g (.int .i64 (o.r)), .g (.int .i64 (o.d)), .g (.int .i64 (o.s))]] (.tup [.agg [.g (.int .i64 ((fT f o).id)), .g (.int .i64 ((fT f o).kd)), .g (.int .i64 ((fT f o).x)), .g (.int .i64 ((fT f o).y)), .g (.int .i64 ((fT f o).r)), .lst 2 (fT f o).n (eO (fT f o).P), .g (.int .i64 ((fT f o).d)), .g (.int .i64 ((fT f o).s)), .lst 6 (fT f o).m (eO (fT f o).S)], .agg [.g (.int .i64 ((jI f o).kd)), .g (.int .i64 ((jI f o).id)), .g (.int .i64 ((jI f o).f.id)), .g (.int .i64 ((jI f o).f.kd)), .g (.int .i64 ((jI f o).f.x)), .g (.int .i64 ((jI f o).f.y)), .g (.int .i64 ((jI f o).f.r)), .lst 2 (jI f o).f.n (eO (jI f o).f.P), .g (.int .i64 ((jI f o).f.d)), .g (.int .i64 ((jI f o).f.s)), .lst 6 (jI f o).f.m (eO (jI f o).f.S), .g (.int .i64 ((jI f o).x)), .g (.int .i64 ((jI f o).y)), .g (.int .i64 ((jI f o).r)), .g (.int .i64 ((jI f o).d)), .g (.int .i64 ((jI f o).s))], .one (.g (.int .i64 (l7 f o)))]) := by
  refine ak Tryz.func207 rfl (by rw [Tryz.ntmps207]; simp) ?_
  simp only [Tryz.ntmps207, zM, PT.tv, au, Nat.zero_add, Nat.reduceAdd]
  repeat' (first
 | ((with_reducible show AW _ _ _ _); first
 | (with_reducible first | refine aS (fun K hK => ?_) | refine aI ?_ | refine aT ?_ | refine aC ?_ | refine aB ?_)
 | (first
 | (with_reducible first | refine aP 0 [0,1] ?_ | refine aP 1 [2,3,4,5] ?_ | refine aP 2 [2,3,4,5,7] ?_)
 | (with_reducible first | refine aP 4 [2,3,4,5,7,8] ?_ | refine aP 5 [2,3,4,5,7,8] ?_)
 | ((with_reducible refine aR (c := Code.region 6 _ true) [2,4,5,7] ?_); (with_reducible refine aD ?_ ?_ ?_ ?_); (focus kernel_rfl); (focus kernel_rfl); (focus kernel_rfl))
 | (with_reducible refine aP 7 [2,3,4,5,7] ?_)
 | ((with_reducible refine aR (c := Code.region 8 _ true) [2,3,4,5,7] ?_); (with_reducible refine aD ?_ ?_ ?_ ?_); (focus kernel_rfl); (focus kernel_rfl); (focus kernel_rfl))
 | ((with_reducible refine aR (c := Code.region 9 _ true) [2,3,4,5,7] ?_); (with_reducible refine aD ?_ ?_ ?_ ?_); (focus kernel_rfl); (focus kernel_rfl); (focus kernel_rfl))
 | ((with_reducible refine aR (c := Code.region 12 _ true) [2,4,5,7] ?_); (with_reducible refine aD ?_ ?_ ?_ ?_); (focus kernel_rfl); (focus kernel_rfl); (focus kernel_rfl))))
 | ((first | (with_reducible refine And.intro ?_ ?_) | (with_reducible refine Need.mk ?_)); focus (first | (intro _; (with_reducible assumption)) | (simp; omega)))
 | (with_reducible refine aJ ?_)
 | ((with_reducible show bL _ _ _ _ _ _); first
 | ((with_reducible refine aM ?_ ?_) <;> (intro hc; (try simp only [zB, zC, reduceCtorEq] at hc); (try (exfalso; first | contradiction | omega)))))
 | ((with_reducible refine And.intro ?_ ?_); focus ((with_reducible show gW _ _ _ = true); kernel_rfl))
 | ((with_reducible show bG _ _ _ _ _ _ _ _ _ _); first
 | (refine aO (k := 227) uf (fun hg => GK f ho) ?_ ?_))
 | ((fail_if_success (with_reducible show AW _ _ _ _)); simp (maxSteps := 2000000) only [go_sem, reduceIte, reduceCtorEq, xA, xL, xD, xE, xM, xS, xB, Tryz.f207])
 | ((with_reducible refine hK _ ?_); clear hK K))
  all_goals first
    | (have e := YV (f := f) (o := o) (by omega); rw [e.1, e.2.1, e.2.2]; repeat' (first | exact rfl | (with_reducible refine And.intro ?_ ?_) | (intro i q hi hq; exact IV.bf _)))
    | (have e0 := uN (f := f) (o := o) (by omega); have e := WM e0.1 (by omega); rw [e0.1, e0.2, e.1, e.2]; repeat' (first | exact rfl | (with_reducible refine And.intro ?_ ?_) | (intro i q hi hq; exact IV.bf _)))
    | (have e0 := uN (f := f) (o := o) (by omega); have e := XJ e0.1 (by omega); rw [e0.1, e0.2, e.1, e.2]; repeat' (exact rfl))
    | (have e0 := uN (f := f) (o := o) (by omega); have e := TP e0.1 (by omega); rw [e0.1, e0.2, e.1, e.2]; repeat' (exact rfl))
    | skip
theorem R8 (f : aZ) (o : fE) (ho : f.Ok) (ho2 : o.f.Ok) (hk : o.kd = 4) : aA Tryz.prog 207 [.agg [.g (.int .i64 (f.id)), .g (.int .i64 (f.kd)), .g (.int .i64 (f.x)), .g (.int .i64 (f.y)), .g (.int .i64 (f.r)), .lst 2 f.n (eO f.P), .g (.int .i64 (f.d)), .g (.int .i64 (f.s)), .lst 6 f.m (eO f.S)], .agg [.g (.int .i64 (o.kd)), .g (.int .i64 (o.id)), .g (.int .i64 (o.f.id)), .g (.int .i64 (o.f.kd)), .g (.int .i64 (o.f.x)), .g (.int .i64 (o.f.y)), .g (.int .i64 (o.f.r)), .lst 2 o.f.n (eO o.f.P), .g (.int .i64 (o.f.d)), .g (.int .i64 (o.f.s)), .lst 6 o.f.m (eO o.f.S), .g (.int .i64 (o.x)), .g (.int .i64 (o.y)), .g (.int .i64 (o.r)), .g (.int .i64 (o.d)), .g (.int .i64 (o.s))]] (.tup [.agg [.g (.int .i64 ((fT f o).id)), .g (.int .i64 ((fT f o).kd)), .g (.int .i64 ((fT f o).x)), .g (.int .i64 ((fT f o).y)), .g (.int .i64 ((fT f o).r)), .lst 2 (fT f o).n (eO (fT f o).P), .g (.int .i64 ((fT f o).d)), .g (.int .i64 ((fT f o).s)), .lst 6 (fT f o).m (eO (fT f o).S)], .agg [.g (.int .i64 ((jI f o).kd)), .g (.int .i64 ((jI f o).id)), .g (.int .i64 ((jI f o).f.id)), .g (.int .i64 ((jI f o).f.kd)), .g (.int .i64 ((jI f o).f.x)), .g (.int .i64 ((jI f o).f.y)), .g (.int .i64 ((jI f o).f.r)), .lst 2 (jI f o).f.n (eO (jI f o).f.P), .g (.int .i64 ((jI f o).f.d)), .g (.int .i64 ((jI f o).f.s)), .lst 6 (jI f o).f.m (eO (jI f o).f.S), .g (.int .i64 ((jI f o).x)), .g (.int .i64 ((jI f o).y)), .g (.int .i64 ((jI f o).r)), .g (.int .i64 ((jI f o).d)), .g (.int .i64 ((jI f o).s))], .one (.g (.int .i64 (l7 f o)))]) := by
  refine ak Tryz.func207 rfl (by rw [Tryz.ntmps207]; simp) ?_
  simp only [Tryz.ntmps207, zM, PT.tv, au, Nat.zero_add, Nat.reduceAdd]
  repeat' (first
 | ((with_reducible show AW _ _ _ _); first
 | (with_reducible first | refine aS (fun K hK => ?_) | refine aT ?_ | refine aC ?_ | refine aB ?_)
 | (first
 | (with_reducible first | refine aP 0 [0,1] ?_ | refine aP 1 [2,3,4,5] ?_ | refine aP 2 [2,3,4,5,7] ?_)
 | (with_reducible first | refine aP 4 [2,3,4,5,7,8] ?_ | refine aP 5 [2,3,4,5,7,8] ?_)
 | ((with_reducible refine aR (c := Code.region 6 _ true) [2,4,5,7] ?_); (with_reducible refine aD ?_ ?_ ?_ ?_); (focus kernel_rfl); (focus kernel_rfl); (focus kernel_rfl))
 | (with_reducible refine aP 7 [2,3,4,5,7] ?_)
 | (with_reducible refine aP 10 [2,3,4,5,7] ?_)
 | ((with_reducible refine aR (c := Code.region 11 _ true) [2,3,4,5,7] ?_); (with_reducible refine aD ?_ ?_ ?_ ?_); (focus kernel_rfl); (focus kernel_rfl); (focus kernel_rfl))
 | ((with_reducible refine aR (c := Code.region 12 _ true) [2,4,5,7] ?_); (with_reducible refine aD ?_ ?_ ?_ ?_); (focus kernel_rfl); (focus kernel_rfl); (focus kernel_rfl))))
 | ((first | (with_reducible refine And.intro ?_ ?_) | (with_reducible refine Need.mk ?_)); focus (first | (intro _; (with_reducible assumption)) | (simp; omega)))
 | (with_reducible refine aJ ?_)
 | ((with_reducible show bL _ _ _ _ _ _); first
 | ((with_reducible refine aM ?_ ?_) <;> (intro hc; (try simp only [zB, zC, reduceCtorEq] at hc); (try (exfalso; first | contradiction | omega)))))
 | ((with_reducible refine And.intro ?_ ?_); focus ((with_reducible show gW _ _ _ = true); kernel_rfl))
 | ((with_reducible show bG _ _ _ _ _ _ _ _ _ _); first
 | (refine aO (k := 227) uf (fun hg => GK f ho) ?_ ?_))
 | ((fail_if_success (with_reducible show AW _ _ _ _)); simp (maxSteps := 2000000) only [go_sem, reduceIte, reduceCtorEq, xA, xL, xD, xE, xM, xS, xB, Tryz.f207])
 | ((with_reducible refine hK _ ?_); clear hK K))
  all_goals first
    | (have e := YV (f := f) (o := o) (by omega); rw [e.1, e.2.1, e.2.2]; repeat' (first | exact rfl | (with_reducible refine And.intro ?_ ?_) | (intro i q hi hq; exact IV.bf _)))
    | (have e0 := uN (f := f) (o := o) (by omega); have e := WM e0.1 (by omega); rw [e0.1, e0.2, e.1, e.2]; repeat' (exact rfl))
    | (have e0 := uN (f := f) (o := o) (by omega); have e := XJ e0.1 (by omega); rw [e0.1, e0.2, e.1, e.2]; repeat' (first | exact rfl | (with_reducible refine And.intro ?_ ?_) | (intro i q hi hq; exact IV.bf _)))
    | (have e0 := uN (f := f) (o := o) (by omega); have e := TP e0.1 (by omega); rw [e0.1, e0.2, e.1, e.2]; repeat' (exact rfl))
    | skip
theorem R9 (f : aZ) (o : fE) (ho : f.Ok) (ho2 : o.f.Ok) (hk : o.kd = 5) : aA Tryz.prog 207 [.agg [.g (.int .i64 (f.id)), .g (.int .i64 (f.kd)), .g (.int .i64 (f.x)), .g (.int .i64 (f.y)), .g (.int .i64 (f.r)), .lst 2 f.n (eO f.P), .g (.int .i64 (f.d)), .g (.int .i64 (f.s)), .lst 6 f.m (eO f.S)], .agg [.g (.int .i64 (o.kd)), .g (.int .i64 (o.id)), .g (.int .i64 (o.f.id)), .g (.int .i64 (o.f.kd)), .g (.int .i64 (o.f.x)), .g (.int .i64 (o.f.y)), .g (.int .i64 (o.f.r)), .lst 2 o.f.n (eO o.f.P), .g (.int .i64 (o.f.d)), .g (.int .i64 (o.f.s)), .lst 6 o.f.m (eO o.f.S), .g (.int .i64 (o.x)), .g (.int .i64 (o.y)), .g (.int .i64 (o.r)), .g (.int .i64 (o.d)), .g (.int .i64 (o.s))]] (.tup [.agg [.g (.int .i64 ((fT f o).id)), .g (.int .i64 ((fT f o).kd)), .g (.int .i64 ((fT f o).x)), .g (.int .i64 ((fT f o).y)), .g (.int .i64 ((fT f o).r)), .lst 2 (fT f o).n (eO (fT f o).P), .g (.int .i64 ((fT f o).d)), .g (.int .i64 ((fT f o).s)), .lst 6 (fT f o).m (eO (fT f o).S)], .agg [.g (.int .i64 ((jI f o).kd)), .g (.int .i64 ((jI f o).id)), .g (.int .i64 ((jI f o).f.id)), .g (.int .i64 ((jI f o).f.kd)), .g (.int .i64 ((jI f o).f.x)), .g (.int .i64 ((jI f o).f.y)), .g (.int .i64 ((jI f o).f.r)), .lst 2 (jI f o).f.n (eO (jI f o).f.P), .g (.int .i64 ((jI f o).f.d)), .g (.int .i64 ((jI f o).f.s)), .lst 6 (jI f o).f.m (eO (jI f o).f.S), .g (.int .i64 ((jI f o).x)), .g (.int .i64 ((jI f o).y)), .g (.int .i64 ((jI f o).r)), .g (.int .i64 ((jI f o).d)), .g (.int .i64 ((jI f o).s))], .one (.g (.int .i64 (l7 f o)))]) := by
  refine ak Tryz.func207 rfl (by rw [Tryz.ntmps207]; simp) ?_
  simp only [Tryz.ntmps207, zM, PT.tv, au, Nat.zero_add, Nat.reduceAdd]
  repeat' (first
 | ((with_reducible show AW _ _ _ _); first
 | (with_reducible first | refine aS (fun K hK => ?_) | refine aT ?_ | refine aC ?_ | refine aB ?_)
 | (first
 | (with_reducible first | refine aP 0 [0,1] ?_ | refine aP 1 [2,3,4,5] ?_ | refine aP 2 [2,3,4,5,7] ?_)
 | ((with_reducible refine aR (c := Code.region 3 _ true) [2,3,4,5,7] ?_); (with_reducible refine aD ?_ ?_ ?_ ?_); (focus kernel_rfl); (focus kernel_rfl); (focus kernel_rfl))
 | (with_reducible first | refine aP 4 [2,3,4,5,7,8] ?_ | refine aP 5 [2,3,4,5,7,8] ?_)
 | (with_reducible refine aP 7 [2,3,4,5,7] ?_)
 | (with_reducible refine aP 10 [2,3,4,5,7] ?_)
 | ((with_reducible refine aR (c := Code.region 12 _ true) [2,4,5,7] ?_); (with_reducible refine aD ?_ ?_ ?_ ?_); (focus kernel_rfl); (focus kernel_rfl); (focus kernel_rfl))))
 | ((first | (with_reducible refine And.intro ?_ ?_) | (with_reducible refine Need.mk ?_)); focus (first | (intro _; (with_reducible assumption)) | (simp; omega)))
 | (with_reducible refine aJ ?_)
 | ((with_reducible show bL _ _ _ _ _ _); first
 | ((with_reducible refine aM ?_ ?_) <;> (intro hc; (try simp only [zB, zC, reduceCtorEq] at hc); (try (exfalso; omega)))))
 | ((with_reducible refine And.intro ?_ ?_); focus ((with_reducible show gW _ _ _ = true); kernel_rfl))
 | ((with_reducible show bG _ _ _ _ _ _ _ _ _ _); first
 | (refine aO (k := 227) uf (fun hg => GK f ho) ?_ ?_))
 | ((fail_if_success (with_reducible show AW _ _ _ _)); simp (maxSteps := 2000000) only [go_sem, reduceIte, reduceCtorEq, xA, xL, xD, xE, xM, xS, xB, Tryz.f207])
 | ((with_reducible refine hK _ ?_); clear hK K))
  all_goals first
    | (have e := YV (f := f) (o := o) (by omega); rw [e.1, e.2.1, e.2.2]; repeat' (exact rfl))
    | (have e0 := uN (f := f) (o := o) (by omega); have e := WM e0.1 (by omega); rw [e0.1, e0.2, e.1, e.2]; repeat' (exact rfl))
    | (have e0 := uN (f := f) (o := o) (by omega); have e := XJ e0.1 (by omega); rw [e0.1, e0.2, e.1, e.2]; repeat' (exact rfl))
    | (have e0 := uN (f := f) (o := o) (by omega); have e := TP e0.1 (by omega); rw [e0.1, e0.2, e.1, e.2]; repeat' (first | exact rfl | (with_reducible refine And.intro ?_ ?_) | (intro i q hi hq; exact IV.bf _)))
    | skip
theorem anX (o : fE) (ho : o.f.Ok) : aA Tryz.prog 175 [.agg [.g (.int .i64 (o.kd)), .g (.int .i64 (o.id)), .g (.int .i64 (o.f.id)), .g (.int .i64 (o.f.kd)), .g (.int .i64 (o.f.x)), .g (.int .i64 (o.f.y)), .g (.int .i64 (o.f.r)), .lst 2 o.f.n (eO o.f.P), .g (.int .i64 (o.f.d)), .g (.int .i64 (o.f.s)), .lst 6 o.f.m (eO o.f.S), .g (.int .i64 (o.x)), .g (.int .i64 (o.y)), .g (.int .i64 (o.r)), .g (.int .i64 (o.d)), .g (.int .i64 (o.s))]] (.t (.one (.g (.bool (yM o))))) := by
  refine ak Tryz.func175 rfl (by rw [Tryz.ntmps175]; simp) ?_
  simp only [Tryz.ntmps175, zM, PT.tv, au, Nat.zero_add, Nat.reduceAdd]
  repeat' (first
 | ((with_reducible show AW _ _ _ _); first
 | (with_reducible first | refine aS (fun K hK => ?_) | refine aT ?_)
 | (first
 | (with_reducible first | refine aP 0 [0] ?_ | refine aP 1 [1] ?_)))
 | (((with_reducible refine Need.mk ?_)); focus (exact True.intro))
 | (with_reducible refine aJ ?_)
 | ((with_reducible show aQ _ _ _ _ _ _ _ _ _ _); first
 | (refine aF (k := 107) DJ (amO _ ho) ?_ ?_))
 | ((fail_if_success (with_reducible show AW _ _ _ _)); simp (maxSteps := 2000000) only [go_sem, reduceIte, reduceCtorEq, xA, xL, xD, xE, xM, xS, xB, Tryz.f175])
 | ((with_reducible refine hK _ ?_); clear hK K))
theorem aiR (o : fE) (ho : o.f.Ok) : aA Tryz.prog 174 [.agg [.g (.int .i64 (o.kd)), .g (.int .i64 (o.id)), .g (.int .i64 (o.f.id)), .g (.int .i64 (o.f.kd)), .g (.int .i64 (o.f.x)), .g (.int .i64 (o.f.y)), .g (.int .i64 (o.f.r)), .lst 2 o.f.n (eO o.f.P), .g (.int .i64 (o.f.d)), .g (.int .i64 (o.f.s)), .lst 6 o.f.m (eO o.f.S), .g (.int .i64 (o.x)), .g (.int .i64 (o.y)), .g (.int .i64 (o.r)), .g (.int .i64 (o.d)), .g (.int .i64 (o.s))]] (.t (.one (.g (.bool (!yM o))))) := by
  refine ak Tryz.func174 rfl (by rw [Tryz.ntmps174]; simp) ?_
  simp only [Tryz.ntmps174, zM, PT.tv, au, Nat.zero_add, Nat.reduceAdd]
  repeat' (first
 | ((with_reducible show AW _ _ _ _); first
 | (with_reducible first | refine aS (fun K hK => ?_) | refine aT ?_)
 | (first
 | (with_reducible first | refine aP 0 [0] ?_ | refine aP 1 [1] ?_)))
 | (((with_reducible refine Need.mk ?_)); focus (exact True.intro))
 | (with_reducible refine aJ ?_)
 | ((with_reducible show aQ _ _ _ _ _ _ _ _ _ _); first
 | (refine aF (k := 175) Ii (anX _ ho) ?_ ?_))
 | ((fail_if_success (with_reducible show AW _ _ _ _)); simp (maxSteps := 2000000) only [go_sem, reduceIte, reduceCtorEq, xA, xL, xD, xE, xM, xS, xB, Tryz.f174])
 | ((with_reducible refine hK _ ?_); clear hK K))
theorem Qa {P : Program} {gs : List (Option Nat)} {d : Option Tmp} {op : UnOp} {t : TypeId} {x : Operand} {ty : TypeId} {pos : String} {aft : Array Edge} {g : Option (Nat × Bool)} {os : List Oper} {s : AS} {K : AS -> Prop} (h : fP P gs os (s.put d .any) K) :
    mg P gs false ⟨d, .unOp op t x, ty, pos, aft, g⟩ os s K := by
  refine Or.inr ?_
  exact ⟨fun h => (by cases h), fun _ => h⟩
theorem Yh (k : Nat) (o : Nat -> fE) (hk : k <= 9223372036854775807) (ho : ∀ i, i < k -> (o i).f.Ok) (hd : decide ((k : Int) <= 100) = true) : aA Tryz.prog 148 [.one (.lst 16 k (iR o))] (.t (.one (.g (.bool (D7 k o))))) := by
  have hd2 : k <= 100 := (by have := of_decide_eq_true hd; omega)
  refine ak Tryz.func148 rfl (by rw [Tryz.ntmps148]; simp) ?_
  simp only [Tryz.ntmps148, zM, PT.tv, au, Nat.zero_add, Nat.reduceAdd]
  repeat' (first
 | ((with_reducible show AW _ _ _ _); first
 | (with_reducible first | refine aS (fun K hK => ?_) | refine aI ?_ | refine aX ?_ | refine aT ?_ | refine aC ?_ | refine aB ?_)
 | (first
 | (with_reducible first | refine aP 0 [0,1] ?_ | refine aP (ops := #[⟨some 3, _, _, _, _, _⟩, _, _, _, _, _, _, _, _]) 1 [0] ?_ | refine aP (ops := #[⟨some 5, _, _, _, _, _⟩, _, _, _, _]) 1 [0,1] ?_ | refine aP (ops := #[⟨some 6, _, _, _, _, _⟩, _, _]) 1 [0,1] ?_ | refine aP 2 [0,1,7,8] ?_ | refine aP 3 [0,1,7,8] ?_ | refine aP 4 [0,1,5,7,8] ?_ | refine aP 5 [5] ?_ | refine aP 6 [0,1,7,8] ?_ | refine aP 7 [] ?_))
 | ((with_reducible show AW _ (Code.loop _) _ _); first
 | ((with_reducible refine aL (c := (Code.seq (Code.region 2 _ _) _)) (ι := Nat) [0,1,7] (fun j => [(8, iA .i64 (j : Int))]) (fun j => []) (fun j => j <= k /\ (∀ j', j' < j -> yM (o j') = true)) (fun j => k - j) 0 ?lg2 ?l12 ?l22 ?li2 ?lr2); (case' lg2 => rintro j _); (case' li2 => try (exact ⟨Nat.zero_le _, fun i hi => absurd hi (Nat.not_lt_zero _)⟩)); (case' lr2 => rintro j ⟨hj, haj⟩ KR hR2; simp only [bI, dI, hset, lk, if_true, if_false, xE, reduceIte, zN, hd]))))
 | ((first | (with_reducible refine And.intro ?_ ?_) | (with_reducible refine Need.mk ?_)); focus (first | exact True.intro | omega))
 | (with_reducible refine aJ ?_)
 | ((with_reducible show bL _ _ _ _ _ _); first
 | ((with_reducible refine aM ?_ ?_) <;> (intro hc; (try simp only [zB, zC, reduceCtorEq] at hc); (try (exfalso; contradiction)))))
 | ((with_reducible show aQ _ _ _ _ _ _ _ _ _ _); first
 | (refine aF (k := 174) VH (aiR _ (ho _ (by omega))) ?_ ?_)
 | ((refine dA (k := 105) Tryz.func105 rfl Bp (by rw [Tryz.ntmps105]; simp) ?_ ?_ (fun K hK => ?_)); (focus (exact True.intro)); (focus ((simp [jF]; done))); simp only [Tryz.ntmps105, List.map_cons, List.map_nil, List.nil_append, List.cons_append, List.append_nil, LV.tv, au, Nat.zero_add, Nat.reduceAdd])
 | ((refine dA (k := 142) Tryz.func142 rfl Ah (by rw [Tryz.ntmps142]; simp) ?_ ?_ (fun K hK => ?_)); (focus (exact True.intro)); (focus ((simp [jF]; done))); simp only [Tryz.ntmps142, List.map_cons, List.map_nil, List.nil_append, List.cons_append, List.append_nil, LV.tv, au, Nat.zero_add, Nat.reduceAdd]))
 | ((with_reducible show bG _ _ _ _ _ _ _ _ _ _); ((refine iL (k := 105) ?_ ?_) <;> (intro hc; (try simp only [zB, zC, reduceCtorEq] at hc); (try (exfalso; contradiction)))))
 | ((with_reducible refine hR2 _ (j + 1) ?_); (try clear hR2 KR))
 | ((with_reducible refine Told.mk ?_); simp only [go_sem, reduceIte, reduceCtorEq, xA, xL, xD, xE, xM, xS, xB, hd] <;> ((((try simp (disch := omega) only [aV, Int.natCast_add, Int.cast_ofNat_Int, and_true, true_and, and_self]); (repeat' (first | omega | (with_reducible refine And.intro ?_ ?_) | (exact all_succ (by assumption) (by assumption)) )); done))))
 | ((fail_if_success (with_reducible show AW _ _ _ _)); simp (maxSteps := 2000000) only [go_sem, reduceIte, reduceCtorEq, xA, xL, xD, xE, xM, xS, xB, Tryz.f148, Tryz.f105, Tryz.f142, hd])
 | ((with_reducible refine hK _ ?_); clear hK K)
 | (with_reducible apply_assumption -exfalso only [*]))
  all_goals first
    | (refine Eq.trans ?_ (decide_eq_false (fun g => by have := g.2 j (by omega); simp_all)).symm; have h0 : (j : Int) >= 0 := (by omega); simp [h0]; done)
    | (refine Eq.trans ?_ (decide_eq_true ⟨hd2, fun i hi => haj i (by omega)⟩).symm; simp; done)
    | skip
theorem Va (k : Nat) (o : Nat -> fE) (hk : k <= 9223372036854775807) (ho : ∀ i, i < k -> (o i).f.Ok) (hd : decide ((k : Int) <= 100) = false) : aA Tryz.prog 148 [.one (.lst 16 k (iR o))] (.t (.one (.g (.bool (D7 k o))))) := by
  refine ak Tryz.func148 rfl (by rw [Tryz.ntmps148]; simp) ?_
  simp only [Tryz.ntmps148, zM, PT.tv, au, Nat.zero_add, Nat.reduceAdd]
  repeat' (first
 | (refine Qa ?_)
 | ((with_reducible show AW _ _ _ _); first
 | (with_reducible first | refine aS (fun K hK => ?_) | refine aT ?_)
 | (first
 | (with_reducible first | refine aP 0 [0] ?_ | refine aP 1 [0] ?_)))
 | (with_reducible refine aJ ?_)
 | ((with_reducible show bG _ _ _ _ _ _ _ _ _ _); first
 | ((refine iL (k := 105) ?_ ?_) <;> (intro hc; (try simp only [zB, zC, reduceCtorEq] at hc); (try (exfalso; contradiction)))))
 | ((fail_if_success (with_reducible show AW _ _ _ _)); simp (maxSteps := 2000000) only [go_sem, reduceIte, reduceCtorEq, xA, xL, xD, xE, xM, xS, xB, Tryz.f148, hd])
 | ((with_reducible refine hK _ ?_); clear hK K))
  all_goals first | exact (decide_eq_false fun g => by have := of_decide_eq_false hd; omega).symm | skip
theorem CB (k : Nat) (o : Nat -> fE) (hk : k <= 9223372036854775807) (ho : ∀ i, i < k -> (o i).f.Ok) : aA Tryz.prog 148 [.one (.lst 16 k (iR o))] (.t (.one (.g (.bool (D7 k o))))) := by
  cases hd : decide ((k : Int) <= 100) with
  | true => exact Yh k o hk ho hd
  | false => exact Va k o hk ho hd
end Go.Proofs.YtcfechepbamhkaaGreat
namespace Go.Proofs
open Go.Shelf
def Tryz.Ih : Go.Shelf.Ren := ⟨fun | 189 => 121 | 125 => 159 | 257 => 158 | 128 => 195 | 129 => 196 | 294 => 187 | 295 => 188 | 296 => 189 | 297 => 190 | 298 => 191 | 299 => 192 | 216 => 137 | 300 => 193 | 301 => 194 | 328 => 215 | 329 => 216 | 330 => 217 | 331 => 218 | 332 => 219 | 215 => 172 | 343 => 235 | n => n, fun | 28 => 36 | 3 => 3 | 46 => 167 | 0 => 0 | 51 => 205 | 53 => 207 | 4 => 4 | 183 => 199 | 182 => 198 | 131 => 133 | 5 => 5 | 9 => 9 | 218 => 224 | 222 => 228 | 228 => 243 | 229 => 244 | n => n, fun | n => n⟩
theorem Tryz.Od : Go.Proofs.Lays.n189 Tryz.prog Tryz.Ih := {
  mixed := by kernel_rfl
  f125 := Tryz.func159.trans (congrArg some (by kernel_rfl))
  f128 := Tryz.func195.trans (congrArg some (by kernel_rfl))
  f129 := Tryz.func196.trans (congrArg some (by kernel_rfl))
  f189 := Tryz.func121.trans (congrArg some (by kernel_rfl))
  f215 := Tryz.func172.trans (congrArg some (by kernel_rfl))
  f216 := Tryz.func137.trans (congrArg some (by kernel_rfl))
  f257 := Tryz.func158.trans (congrArg some (by kernel_rfl))
  f294 := Tryz.func187.trans (congrArg some (by kernel_rfl))
  f295 := Tryz.func188.trans (congrArg some (by kernel_rfl))
  f296 := Tryz.func189.trans (congrArg some (by kernel_rfl))
  f297 := Tryz.func190.trans (congrArg some (by kernel_rfl))
  f298 := Tryz.func191.trans (congrArg some (by kernel_rfl))
  f299 := Tryz.func192.trans (congrArg some (by kernel_rfl))
  f300 := Tryz.func193.trans (congrArg some (by kernel_rfl))
  f301 := Tryz.func194.trans (congrArg some (by kernel_rfl))
  f328 := Tryz.func215.trans (congrArg some (by kernel_rfl))
  f329 := Tryz.func216.trans (congrArg some (by kernel_rfl))
  f330 := Tryz.func217.trans (congrArg some (by kernel_rfl))
  f331 := Tryz.func218.trans (congrArg some (by kernel_rfl))
  f332 := Tryz.func219.trans (congrArg some (by kernel_rfl))
  f343 := Tryz.func235.trans (congrArg some (by kernel_rfl))
  t0 := Tryz.underlying0
  a0 := Tryz.isAgg0
  z0 := Tryz.sizeOf0
  v0 := Tryz.zeroValue0
  t3 := Tryz.underlying3
  a3 := Tryz.isAgg3
  z3 := Tryz.sizeOf3
  v3 := Tryz.zeroValue3
  t4 := Tryz.underlying4
  a4 := Tryz.isAgg4
  z4 := Tryz.sizeOf4
  v4 := Tryz.zeroValue4
  t5 := Tryz.underlying5
  a5 := Tryz.isAgg5
  z5 := Tryz.sizeOf5
  v5 := Tryz.zeroValue5
  t9 := Tryz.underlying9
  a9 := Tryz.isAgg9
  z9 := Tryz.sizeOf9
  v9 := Tryz.zeroValue9
  t28 := Tryz.underlying36
  a28 := Tryz.isAgg36
  z28 := Tryz.sizeOf36
  v28 := Tryz.zeroValue36
  t46 := Tryz.underlying167
  a46 := Tryz.isAgg167
  z46 := Tryz.sizeOf167
  v46 := Tryz.zeroValue167
  t51 := Tryz.underlying205
  a51 := Tryz.isAgg205
  z51 := Tryz.sizeOf205
  v51 := Tryz.zeroValue205
  t53 := Tryz.underlying207
  a53 := Tryz.isAgg207
  z53 := Tryz.sizeOf207
  v53 := Tryz.zeroValue207
  t131 := Tryz.underlying133
  a131 := Tryz.isAgg133
  z131 := Tryz.sizeOf133
  v131 := Tryz.zeroValue133
  t182 := Tryz.underlying198
  a182 := Tryz.isAgg198
  z182 := Tryz.sizeOf198
  v182 := Tryz.zeroValue198
  t183 := Tryz.underlying199
  a183 := Tryz.isAgg199
  z183 := Tryz.sizeOf199
  v183 := Tryz.zeroValue199
  t218 := Tryz.underlying224
  a218 := Tryz.isAgg224
  z218 := Tryz.sizeOf224
  v218 := Tryz.zeroValue224
  t222 := Tryz.underlying228
  a222 := Tryz.isAgg228
  z222 := Tryz.sizeOf228
  v222 := Tryz.zeroValue228
  t228 := Tryz.underlying243
  a228 := Tryz.isAgg243
  z228 := Tryz.sizeOf243
  v228 := Tryz.zeroValue243
  t229 := Tryz.underlying244
  a229 := Tryz.isAgg244
  z229 := Tryz.sizeOf244
  v229 := Tryz.zeroValue244 }
open Go.Sort Go.RowKit in
theorem Tryz.slices_Sort_int (blk off cap : Nat) (zs : List Int) (w : World) (hH : Holds (Value.int .i64) w blk off zs.toArray) (hblk : blk < w.heap.size) (hsz : zs.length < 4611686018427387904) :
    Calls Tryz.prog 121 #[.slice (some ⟨blk, off, none⟩) zs.length cap] w fun e w' =>
      e = .returned (.tuple #[]) /\ ∃ n os, w' = grow (putRow (Value.int .i64) (Sort.ahead w n) blk off (zs.mergeSort fun x y => decide (x <= y)).toArray) os := Any.slices_Sort_int Tryz.Od blk off cap zs w hH hblk hsz
def Tryz.D5 : Go.Shelf.Ren := ⟨fun | 25 => 100 | 31 => 137 | 32 => 138 | 37 => 172 | n => n, fun | 22 => 36 | 3 => 3 | 4 => 4 | 40 => 167 | 0 => 0 | n => n, fun | n => n⟩
theorem Tryz.EC : Go.Proofs.Lays2.n25 Tryz.prog Tryz.D5 := {
  mixed := by kernel_rfl
  f25 := Tryz.func100.trans (congrArg some (by kernel_rfl))
  f31 := Tryz.func137.trans (congrArg some (by kernel_rfl))
  f32 := Tryz.func138.trans (congrArg some (by kernel_rfl))
  f37 := Tryz.func172.trans (congrArg some (by kernel_rfl))
  t0 := Tryz.underlying0
  a0 := Tryz.isAgg0
  z0 := Tryz.sizeOf0
  v0 := Tryz.zeroValue0
  t3 := Tryz.underlying3
  a3 := Tryz.isAgg3
  z3 := Tryz.sizeOf3
  v3 := Tryz.zeroValue3
  t4 := Tryz.underlying4
  a4 := Tryz.isAgg4
  z4 := Tryz.sizeOf4
  v4 := Tryz.zeroValue4
  t22 := Tryz.underlying36
  a22 := Tryz.isAgg36
  z22 := Tryz.sizeOf36
  v22 := Tryz.zeroValue36
  t40 := Tryz.underlying167
  a40 := Tryz.isAgg167
  z40 := Tryz.sizeOf167
  v40 := Tryz.zeroValue167 }
open Go.RowKit Go.Lib in
theorem Tryz.slices_BinarySearch_int (b off n c : Nat) (zs : List Int) (x : Int) (w : World) (hz : n <= zs.length) (hbig : n < 4611686018427387904) (hc : ∀ j, j < zs.length -> w.cell? ⟨b, off + j, none⟩ = some (.int .i64 (zs.getD j 0))) (hs : (zs.take n).Pairwise (· <= ·)) :
    Calls Tryz.prog 100 #[.slice (some ⟨b, off, none⟩) n c, .int .i64 x] w fun e w' => e = .returned (.tuple #[.int .i64 ((zs.take n).countP (· < x) : Nat), .bool ((zs.take n).contains x)]) /\ ∃ q, w' = w.drewN q := Any.slices_BinarySearch_int Tryz.EC b off n c zs x w hz hbig hc hs
open Go.RowKit Go.Sort in
theorem Tryz.slices_Sort_int_none (p : Option Addr) (cap : Nat) (w : World) :
    Calls Tryz.prog 121 #[.slice p 0 cap] w fun e w' => e = .returned (.tuple #[]) /\ w' = w := Any.slices_Sort_int_none Tryz.Od p cap w
open Go.RowKit Go.Lib in
theorem Tryz.slices_BinarySearch_int_empty (a : Option Addr) (c : Nat) (x : Int) (w : World) :
    Calls Tryz.prog 100 #[.slice a 0 c, .int .i64 x] w fun e w' => e = .returned (.tuple #[.int .i64 0, .bool false]) /\ w' = w := Any.slices_BinarySearch_int_empty Tryz.EC a c x w
end Go.Proofs
namespace Go.Proofs.YtcfechepbamhkaaGreat
open Go.RowKit Go.Sea Go.Sort
def dX (zs : List Int) : List CV := zs.map fun z => .iv (.g (.int .i64 z))
theorem bg (zs : List Int) : (dX zs).length = zs.length := by simp [dX]
theorem iO (zs : List Int) : ∀ c, c ∈ dX zs -> j4 c := by
  intro c hc
  simp only [dX, List.mem_map] at hc
  obtain ⟨z, _, rfl⟩ := hc
  trivial
theorem CF (zs : List Int) (k : Nat) (h : k < zs.length) : (dX zs).getD k .any = .iv (.g (.int .i64 (zs.getD k 0))) := by
  simp [dX, List.getD, h]
section
variable {w0 : World} {Z0 : Fr} {J : Nat -> Option Nat} {Z : Nat -> Prop} {s : AS} {a : Act} {w : World}
theorem EJ (R : Rel w0 Z0 J Z s a w) : ∀ n, Rel w0 Z0 J Z s a (Go.Sort.ahead w n)
  | 0 => R
  | n + 1 => by
    have := (EJ R n).drew
    exact this
theorem below_grow (w : World) (os : Array Obj) : Below w.heap.size w (grow w os) := by
  refine ⟨rfl, rfl, rfl, by simp [grow], fun k hk => ?_⟩
  simp only [grow]
  rw [Array.getElem?_append_left hk]
theorem Im (R : Rel w0 Z0 J Z s a w) {i b : Nat} {zs : List Int} {c : Array Value} {e : TypeId} (hj : J i = some b) (hb : w.heap[b]? = some (.cells c e (0, 0))) (hz : zs ≠ []) (h : hget s.heap i = some (dX zs)) :
    zs.length <= c.size /\ ∀ j, j < zs.length -> c[j]? = some (.int .i64 (zs.getD j 0)) := by
  obtain ⟨c1, e1, g2, g3⟩ := R.cells h (by cases zs <;> simp_all [dX]) hj ⟨_, _, hb⟩
  rw [hb] at g2; cases g2
  have hl := g3.length
  have hl' : zs.length <= c.size := by
    simp only [List.length_take, bg, Array.length_toList] at hl
    omega
  refine ⟨hl', fun j hjz => ?_⟩
  obtain ⟨u, hu, hr⟩ := g3.get (k := j) (y := .iv (.g (.int .i64 (zs.getD j 0)))) (by simp [dX, List.getD, hjz])
  rw [List.getElem?_take, if_pos (by rw [bg]; exact hjz), Array.getElem?_toList] at hu
  rw [hu]; cases hr; rfl
theorem row_holds {b : Nat} {zs : List Int} {c : Array Value} {e : TypeId} (hb : w.heap[b]? = some (.cells c e (0, 0))) (h : ∀ j, j < zs.length -> c[j]? = some (.int .i64 (zs.getD j 0))) : Holds (Value.int .i64) w b 0 zs.toArray := by
  intro j hj
  have hj' : j < zs.length := by simpa using hj
  refine ⟨?_, ?_⟩
  · rw [cell_of_row w b _ c e _ hb, Nat.zero_add, h j hj']
    simp [List.getD, hj']
  · simp [World.frozen?, hb]
theorem aaE (R : Rel w0 Z0 J Z s a w) {i b : Nat} {zs ys : List Int} {c : Array Value} {e : TypeId} (hj : J i = some b) (hb : w.heap[b]? = some (.cells c e (0, 0))) (h : hget s.heap i = some (dX zs)) (hl : ys.length = zs.length) (hc : zs.length <= c.size) :
    Rel w0 Z0 J Z { s with heap := hset s.heap i (dX ys) } a (putRow (Value.int .i64) w b 0 ys.toArray) := by
  have hrow := setRow_heap w b c (putCells (Value.int .i64) 0 ys.toArray c) e (0, 0) hb
  have ew : putRow (Value.int .i64) w b 0 ys.toArray = w.setRow b (putCells (Value.int .i64) 0 ys.toArray c) := by
    unfold putRow mapBlock World.setRow
    congr 1
    apply Array.ext_getElem?
    intro k
    simp only [Array.getElem?_modify]
    by_cases hk : b = k
    · subst hk
      simp only [if_true]
      rw [hb]; rfl
    · simp [hk]
  rw [ew]
  refine R.set h hj hb (by simp [putCells]) (aG _ _ _) (fun k hk => aK _ _ _ _ hk) ?_
  refine aU.of (by simp [putCells, bg]; omega) fun k u y hu hy => ?_
  have hk : k < ys.length := by
    rw [List.getElem?_take] at hu
    split at hu
    · rename_i h; rwa [bg] at h
    · cases hu
  rw [List.getElem?_take, if_pos (by rw [bg]; exact hk), Array.getElem?_toList] at hu
  simp only [putCells, Array.getElem?_mapIdx] at hu
  rw [Array.getElem?_eq_getElem (by omega)] at hu
  simp [hk] at hu
  simp [dX, hk] at hy
  subst hu; subst hy
  exact Rd.g _ rfl
end
theorem Zq (zs : List Int) : (zs.mergeSort fun x y => decide (x <= y)).length = zs.length := by simp
theorem Wm (zs : List Int) (hz : zs.length < 4611686018427387904) (i : Nat) : FB Tryz.prog 121 [.one (.slc i 0 zs.length 1)] i (dX zs) (.tup []) (dX (zs.mergeSort fun x y => decide (x <= y))) := by
  intro H hH w0 Z0 J Z s a w vs R hs hv
  subst hs
  obtain ⟨vs⟩ := vs
  match vs, hv with
  | [v], ⟨hv, _⟩ =>
    by_cases h0 : zs = []
    · subst h0
      have ev : ∃ p cap, v = .slice p 0 cap := by
        rcases hv with ⟨_, rfl⟩ | ⟨b, cap, c, e, rfl, _⟩ <;> exact ⟨_, _, rfl⟩
      obtain ⟨p, cap, rfl⟩ := ev
      refine (Tryz.slices_Sort_int_none p cap w).mono fun e w' ⟨he, hw⟩ => ?_
      subst hw
      refine ⟨_, J, Z, he, ?_, #[], rfl, trivial⟩
      have e1 : dX (([] : List Int).mergeSort fun x y => decide (x <= y)) = dX [] := by simp [dX]
      rw [e1]
      exact R.same fun k => by
        by_cases hk : k = i
        · subst hk; rw [aG]; exact hH.symm
        · exact aK _ _ _ _ hk
    · rcases hv with ⟨h, _⟩ | ⟨b, cap, c, e, rfl, hj, hc1, hc2, hb, hsz⟩
      · exact absurd (List.eq_nil_of_length_eq_zero h) h0
      · obtain ⟨k1, k2⟩ := Im R hj hb h0 hH
        refine (Tryz.slices_Sort_int b 0 cap zs w (row_holds hb k2) (R.jlt i b hj).2.1 hz).mono fun e' w' ⟨he, n, os, hw⟩ => ?_
        subst hw
        have R1 := aaE (EJ R n) (ys := zs.mergeSort fun x y => decide (x <= y)) hj hb hH (Zq zs) k1
        exact ⟨_, J, _, he, (R1.call (below_grow _ os)).1, #[], rfl, trivial⟩
end Go.Proofs.YtcfechepbamhkaaGreat
