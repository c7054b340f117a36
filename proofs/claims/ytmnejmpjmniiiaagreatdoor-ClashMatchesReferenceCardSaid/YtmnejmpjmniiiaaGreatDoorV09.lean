/- Part 9 of 18: contracts of functions and plain laws for the root text. No condition. -/
import Derived.Test.YtmnejmpjmniiiaaGreatDoorV01
import Derived.Test.YtmnejmpjmniiiaaGreatDoorV02
import Derived.Test.YtmnejmpjmniiiaaGreatDoorV03
import Derived.Test.YtmnejmpjmniiiaaGreatDoorV04
import Derived.Test.YtmnejmpjmniiiaaGreatDoorV05
import Derived.Test.YtmnejmpjmniiiaaGreatDoorV06
import Derived.Test.YtmnejmpjmniiiaaGreatDoorV07
import Derived.Test.YtmnejmpjmniiiaaGreatDoorV08
import Derived.Shelf.Small.Bits
import Derived.Shelf.Small.Wraps
import Derived.Shelf.Strconv.Itoa0
import Derived.Shelf.Sort.Plain
import Derived.Ground.Names2Prog
import Derived.Shelf.Slices.SearchI
import Derived.Shelf.Slices.In.SortNone
import Derived.Test.YtmnejmpjmniiiaaGreatDoorProg
import Derived.Lib.RowBridge
set_option linter.unusedVariables false
set_option linter.unusedSimpArgs false
set_option linter.unusedSectionVars false
set_option linter.deprecated false
set_option maxRecDepth 100000
set_option maxHeartbeats 4000000
namespace Go.Proofs.YtmnejmpjmniiiaaGreatDoor
open Go.RowKit Go.Sea
open Nat renaming reduceAdd -> xA, reduceLT -> xL, reduceLeDiff -> xD, reduceEqDiff -> xE, reduceMul -> xM, reduceSub -> xS, reduceBEq -> xB
theorem zT : aM Tryz.prog 115 = true := by kernel_rfl
theorem Hg : aM Tryz.prog 149 = true := by kernel_rfl
theorem GK : aM Tryz.prog 150 = true := by kernel_rfl
theorem Jj : aM Tryz.prog 151 = true := by kernel_rfl
theorem HZ : aM Tryz.prog 180 = true := by kernel_rfl
theorem agt : fF Tryz.prog 66 = true := by kernel_rfl
theorem aaN : fF Tryz.prog 112 = true := by kernel_rfl
theorem Q7 : dB Tryz.prog 112 0 = some 0 := by kernel_rfl
theorem QX : dB Tryz.prog 112 1 = some 1 := by kernel_rfl
theorem R7 : dB Tryz.prog 112 2 = some 2 := by kernel_rfl
theorem Qm : dB Tryz.prog 112 3 = some 11 := by kernel_rfl
theorem Sy : dB Tryz.prog 112 4 = some 13 := by kernel_rfl
theorem Ur : dB Tryz.prog 112 5 = some 14 := by kernel_rfl
theorem Rk : dB Tryz.prog 112 6 = some 15 := by kernel_rfl
theorem SE : cZ Tryz.prog 112 0 = some (0, 1) := by kernel_rfl
theorem R6 : cZ Tryz.prog 112 1 = some (1, 1) := by kernel_rfl
theorem ahO : mU Tryz.prog 66 = some (true, 9) := by kernel_rfl
theorem acw : mU Tryz.prog 112 = some (true, 16) := by kernel_rfl
theorem afv : eX Tryz.prog 66 = some [.iv (.g (.int .i64 0)), .iv (.g (.int .i64 0)), .iv (.g (.int .i64 0)), .iv (.g (.int .i64 0)), .iv (.g (.int .i64 0)), .iv (.g (.slice none 0 0)), .iv (.g (.int .i64 0)), .iv (.g (.int .i64 0)), .iv (.g (.slice none 0 0))] := by kernel_rfl
theorem ab8 : eX Tryz.prog 112 = some [.iv (.g (.int .i64 0)), .iv (.g (.int .i64 0)), .iv (.g (.int .i64 0)), .iv (.g (.int .i64 0)), .iv (.g (.int .i64 0)), .iv (.g (.int .i64 0)), .iv (.g (.int .i64 0)), .iv (.g (.slice none 0 0)), .iv (.g (.int .i64 0)), .iv (.g (.int .i64 0)), .iv (.g (.slice none 0 0)), .iv (.g (.int .i64 0)), .iv (.g (.int .i64 0)), .iv (.g (.int .i64 0)), .iv (.g (.int .i64 0)), .iv (.g (.int .i64 0))] := by kernel_rfl
attribute [go_sem] zT Hg GK Jj HZ agt aaN Q7 QX R7 Qm Sy Ur Rk SE R6 ahO acw afv ab8
structure bT where
  kd : Int
  id : Int
  f : aF
  x : Int
  y : Int
  r : Int
  d : Int
  s : Int
def bL : aF := ⟨0, 0, 0, 0, 0, 0, fun _ _ => 0, 0, 0, 0, fun _ _ => 0⟩
def Zp (k i : Int) : bT := ⟨k, i, bL, 0, 0, 0, 0, 0⟩
def dR (o : bT) : bT := if o.kd = 1 then ⟨o.kd, o.id, bL, o.x, o.y, o.r, o.d, o.s⟩ else if o.kd = 3 then ⟨o.kd, o.id, o.f, 0, 0, 0, o.d, o.s⟩ else if o.kd = 4 then ⟨o.kd, o.id, o.f, o.x, o.y, o.r, 0, o.s⟩ else if o.kd = 5 then ⟨o.kd, o.id, o.f, o.x, o.y, o.r, o.d, 0⟩ else o
theorem jm : bL.Ok := ⟨by simp [bL], by simp [bL]⟩
theorem UA {o : bT} (h : o.f.Ok) : (dR o).f.Ok := by
  unfold dR; repeat' split
  all_goals first | exact jm | exact h
def zF (f : aF) : Prop := f.id = 0 /\ f.kd = 0 /\ f.x = 0 /\ f.y = 0 /\ f.r = 0 /\ f.d = 0 /\ f.s = 0 /\ f.n = 0 /\ f.m = 0
instance (f : aF) : Decidable (zF f) := by unfold zF; infer_instance
def opC (o : bT) (pt rm fe : Bool) : Prop :=
  (1 <= o.id /\ o.id <= 100000) /\ (o.kd = 1 /\ o.f.id = o.id /\ fe = true /\ o.x = 0 /\ o.y = 0 /\ o.r = 0 /\ o.d = 0 /\ o.s = 0 \/ zF o.f ∧
    (o.kd = 2 /\ o.x = 0 /\ o.y = 0 /\ o.r = 0 /\ o.d = 0 /\ o.s = 0 \/ o.kd = 3 /\ (0 <= o.r /\ o.r <= 100000) /\ pt = true /\ rm = true /\ o.d = 0 /\ o.s = 0 ∨
     o.kd = 4 /\ (0 <= o.d /\ o.d <= 100000) /\ o.x = 0 /\ o.y = 0 /\ o.r = 0 /\ o.s = 0 \/ o.kd = 5 /\ (0 <= o.s /\ o.s <= 999) /\ o.x = 0 /\ o.y = 0 /\ o.r = 0 /\ o.d = 0))
instance (o : bT) (pt rm fe : Bool) : Decidable (opC o pt rm fe) := by unfold opC; infer_instance
def oQ (o : bT) : Bool := decide (opC o (dJ o.x o.y) (lT o.x o.y o.r) (fI o.f))
def FZ (a b : bT) : Bool := decide (a.kd = b.kd /\ a.id = b.id /\ a.x = b.x /\ a.y = b.y /\ a.r = b.r /\ a.d = b.d /\ a.s = b.s) && tF a.f b.f
theorem acv {w n : Nat} {P Q : Nat -> Nat -> Int} : zy w n 0 P Q = true ↔ n = 0 := by
  unfold zy; rw [decide_eq_true_eq]
  exact ⟨fun h => h.1, fun h => ⟨h, fun i hi => by omega⟩⟩
theorem Uc (f : aF) : tF f bL = true ↔ zF f := by
  unfold tF zF; simp only [Bool.and_eq_true, decide_eq_true_eq]; simp only [bL, acv, and_assoc]
theorem wP (o : bT) : FZ (dR o) (Zp o.kd o.id) = true ↔ ((o.kd = 1 \/ zF o.f) /\ (o.kd = 3 \/ (o.x = 0 /\ o.y = 0 /\ o.r = 0)) /\ (o.kd = 4 \/ o.d = 0) /\ (o.kd = 5 \/ o.s = 0)) := by
  have h0 : zF bL := ⟨rfl, rfl, rfl, rfl, rfl, rfl, rfl, rfl, rfl⟩
  unfold FZ; simp only [Bool.and_eq_true, decide_eq_true_eq]; simp only [Zp, Uc]
  unfold dR
  by_cases h1 : o.kd = 1
  · simp [h1, h0, and_assoc]
  · by_cases h3 : o.kd = 3
    · simp [h3]
      generalize zF o.f = z at *; constructor <;> (intro h; simp_all)
    · by_cases h4 : o.kd = 4
      · simp [h4]
        generalize zF o.f = z at *; constructor <;> (intro h; simp_all)
      · by_cases h5 : o.kd = 5
        · simp [h5]
          generalize zF o.f = z at *; constructor <;> (intro h; simp_all)
        · simp [h1, h3, h4, h5]
          generalize zF o.f = z at *; constructor <;> (intro h; simp_all)
theorem aeC {o : bT} (h : o.kd = 1) : dR o = ⟨o.kd, o.id, bL, o.x, o.y, o.r, o.d, o.s⟩ := by unfold dR; rw [if_pos h]
theorem aa8 {o : bT} (h : o.kd = 3) : dR o = ⟨o.kd, o.id, o.f, 0, 0, 0, o.d, o.s⟩ := by unfold dR; rw [if_neg (by omega), if_pos h]
theorem aeD {o : bT} (h : o.kd = 4) : dR o = ⟨o.kd, o.id, o.f, o.x, o.y, o.r, 0, o.s⟩ := by unfold dR; rw [if_neg (by omega), if_neg (by omega), if_pos h]
theorem acE {o : bT} (h : o.kd = 5) : dR o = ⟨o.kd, o.id, o.f, o.x, o.y, o.r, o.d, 0⟩ := by unfold dR; rw [if_neg (by omega), if_neg (by omega), if_neg (by omega), if_pos h]
theorem acz {o : bT} (h : o.kd ≠ 1 /\ o.kd ≠ 3 /\ o.kd ≠ 4 /\ o.kd ≠ 5) : dR o = o := by unfold dR; rw [if_neg h.1, if_neg h.2.1, if_neg h.2.2.1, if_neg h.2.2.2]
theorem jM (o : bT) : oQ o = true ↔ opC o (dJ o.x o.y) (lT o.x o.y o.r) (fI o.f) := decide_eq_true_iff
def idO (o : bT) : Prop := (1 <= o.id /\ o.id <= 100000) /\ FZ (dR o) (Zp o.kd o.id) = true
theorem ajm {o : bT} (h : (o.id < 1 \/ o.id > 100000) \/ FZ (dR o) (Zp o.kd o.id) = false) : false = oQ o := by
  refine Bool.eq_iff_iff.2 ?_
  rw [jM]
  refine ⟨fun g => (by cases g), fun g => ?_⟩
  exfalso
  obtain ⟨g1, g2⟩ := g
  have : FZ (dR o) (Zp o.kd o.id) = true := by
    rw [wP]
    rcases g2 with g2 | ⟨gz, g2 | g2 | g2 | g2⟩
    · exact ⟨Or.inl g2.1, by omega, by omega, by omega⟩
    all_goals exact ⟨Or.inr gz, by omega, by omega, by omega⟩
  rcases h with h | h
  · omega
  · rw [this] at h; cases h
theorem ajp {o : bT} (h : idO o) (hk : o.kd = 1) : (o.f.id == o.id && fI o.f) = oQ o := by
  obtain ⟨h1, h2⟩ := h; rw [wP] at h2
  refine Bool.eq_iff_iff.2 ?_
  rw [jM]; unfold opC; simp only [Bool.and_eq_true, beq_iff_eq]
  constructor
  · rintro ⟨g1, g2⟩; exact ⟨h1, Or.inl ⟨hk, g1, g2, by omega, by omega, by omega, by omega, by omega⟩⟩
  · rintro ⟨_, g | ⟨_, g | g | g | g⟩⟩
    · exact ⟨g.2.1, g.2.2.1⟩
    all_goals omega
theorem YU {o : bT} (h2 : (o.kd = 1 \/ zF o.f) /\ (o.kd = 3 \/ (o.x = 0 /\ o.y = 0 /\ o.r = 0)) /\ (o.kd = 4 \/ o.d = 0) /\ (o.kd = 5 \/ o.s = 0)) (hk : o.kd ≠ 1) : zF o.f := h2.1.resolve_left hk
theorem aiJ {o : bT} (h : idO o) (hk : o.kd = 2) : true = oQ o := by
  obtain ⟨h1, h2⟩ := h; rw [wP] at h2
  refine ((jM o).2 ⟨h1, Or.inr ⟨YU h2 (by omega), Or.inl (by omega)⟩⟩).symm
theorem ai5 {o : bT} (h : idO o) (hk : o.kd = 3) : (decide (o.r >= 0) && decide (o.r <= 100000) && dJ o.x o.y && lT o.x o.y o.r) = oQ o := by
  obtain ⟨h1, h2⟩ := h; rw [wP] at h2
  refine Bool.eq_iff_iff.2 ?_
  rw [jM]; unfold opC; simp only [Bool.and_eq_true, decide_eq_true_eq]
  constructor
  · rintro ⟨⟨⟨g1, g2⟩, g3⟩, g4⟩; exact ⟨h1, Or.inr ⟨YU h2 (by omega), Or.inr (Or.inl ⟨hk, ⟨g1, g2⟩, g3, g4, by omega, by omega⟩)⟩⟩
  · rintro ⟨_, g | ⟨_, g | g | g | g⟩⟩
    · omega
    · omega
    · exact ⟨⟨⟨g.2.1.1, g.2.1.2⟩, g.2.2.1⟩, g.2.2.2.1⟩
    all_goals omega
theorem aiH {o : bT} (h : idO o) (hk : o.kd = 4) : (decide (o.d >= 0) && decide (o.d <= 100000)) = oQ o := by
  obtain ⟨h1, h2⟩ := h; rw [wP] at h2
  refine Bool.eq_iff_iff.2 ?_
  rw [jM]; unfold opC; simp only [Bool.and_eq_true, decide_eq_true_eq]
  constructor
  · rintro ⟨g1, g2⟩; exact ⟨h1, Or.inr ⟨YU h2 (by omega), Or.inr (Or.inr (Or.inl ⟨hk, ⟨g1, g2⟩, by omega, by omega, by omega, by omega⟩))⟩⟩
  · rintro ⟨_, g | ⟨_, g | g | g | g⟩⟩ <;> omega
theorem ajs {o : bT} (h : idO o) (hk : o.kd = 5) : (decide (o.s >= 0) && decide (o.s <= 999)) = oQ o := by
  obtain ⟨h1, h2⟩ := h; rw [wP] at h2
  refine Bool.eq_iff_iff.2 ?_
  rw [jM]; unfold opC; simp only [Bool.and_eq_true, decide_eq_true_eq]
  constructor
  · rintro ⟨g1, g2⟩; exact ⟨h1, Or.inr ⟨YU h2 (by omega), Or.inr (Or.inr (Or.inr ⟨hk, ⟨g1, g2⟩, by omega, by omega, by omega, by omega⟩))⟩⟩
  · rintro ⟨_, g | ⟨_, g | g | g | g⟩⟩ <;> omega
theorem ajh {o : bT} (hk : o.kd ≠ 1 /\ o.kd ≠ 2 /\ o.kd ≠ 3 /\ o.kd ≠ 4 /\ o.kd ≠ 5) : false = oQ o := by
  refine Bool.eq_iff_iff.2 ?_
  rw [jM]; unfold opC
  refine ⟨fun g => (by cases g), ?_⟩
  rintro ⟨_, g | ⟨_, g | g | g | g⟩⟩ <;> omega
theorem ad5 (o : bT) (ho : o.f.Ok) : au Tryz.prog 150 [.agg [.g (.int .i64 (o.kd)), .g (.int .i64 (o.id)), .g (.int .i64 (o.f.id)), .g (.int .i64 (o.f.kd)), .g (.int .i64 (o.f.x)), .g (.int .i64 (o.f.y)), .g (.int .i64 (o.f.r)), .lst 2 o.f.n (bX o.f.P), .g (.int .i64 (o.f.d)), .g (.int .i64 (o.f.s)), .lst 6 o.f.m (bX o.f.S), .g (.int .i64 (o.x)), .g (.int .i64 (o.y)), .g (.int .i64 (o.r)), .g (.int .i64 (o.d)), .g (.int .i64 (o.s))]] (.t (.agg [.g (.int .i64 ((dR o).kd)), .g (.int .i64 ((dR o).id)), .g (.int .i64 ((dR o).f.id)), .g (.int .i64 ((dR o).f.kd)), .g (.int .i64 ((dR o).f.x)), .g (.int .i64 ((dR o).f.y)), .g (.int .i64 ((dR o).f.r)), .lst 2 (dR o).f.n (bX (dR o).f.P), .g (.int .i64 ((dR o).f.d)), .g (.int .i64 ((dR o).f.s)), .lst 6 (dR o).f.m (bX (dR o).f.S), .g (.int .i64 ((dR o).x)), .g (.int .i64 ((dR o).y)), .g (.int .i64 ((dR o).r)), .g (.int .i64 ((dR o).d)), .g (.int .i64 ((dR o).s))])) := by
  refine ah Tryz.func150 rfl (by rw [Tryz.ntmps150]; simp) ?_
  simp only [Tryz.ntmps150, zM, PT.tv, ak, Nat.zero_add, Nat.reduceAdd]
  repeat' (first
 | ((with_reducible show AW _ _ _ _); first
 | (with_reducible first | refine aS (fun K hK => ?_) | refine aI ?_ | refine aT ?_ | refine aC ?_ | refine aB ?_)
 | (first
 | (with_reducible first | refine aP 0 [0] ?_ | refine aP 1 [1,2] ?_ | refine aP 2 [1,2,4] ?_ | refine aP 3 [1,2] ?_ | refine aP 4 [1,2,4] ?_ | refine aP 5 [1,2] ?_ | refine aP 6 [1,2,4] ?_ | refine aP 7 [1,2] ?_ | refine aP 8 [1,2,4] ?_ | refine aP 9 [1,2] ?_ | refine aP 10 [1,2] ?_)))
 | (with_reducible refine aA ?_)
 | ((with_reducible show aY _ _ _ _ _ _); first
 | ((with_reducible refine aH ?_ ?_) <;> (intro hc; (try simp only [zB, zC, reduceCtorEq] at hc); (try (exfalso; contradiction)))))
 | ((fail_if_success (with_reducible show AW _ _ _ _)); simp (maxSteps := 2000000) only [go_sem, reduceIte, reduceCtorEq, xA, xL, xD, xE, xM, xS, xB, Tryz.f150])
 | ((with_reducible refine hK _ ?_); clear hK K))
  all_goals ((first | rw [aeC (by assumption)] | rw [aa8 (by assumption)] | rw [aeD (by assumption)] | rw [acE (by assumption)] | rw [acz ⟨by assumption, by assumption, by assumption, by assumption⟩]); (repeat' (first | exact rfl | (with_reducible refine And.intro ?_ ?_) | (intro i q hi hq; exact IV.aG _))))
theorem ahX (a b : bT) (ha : a.f.Ok) (hb : b.f.Ok) : au Tryz.prog 149 [.agg [.g (.int .i64 (a.kd)), .g (.int .i64 (a.id)), .g (.int .i64 (a.f.id)), .g (.int .i64 (a.f.kd)), .g (.int .i64 (a.f.x)), .g (.int .i64 (a.f.y)), .g (.int .i64 (a.f.r)), .lst 2 a.f.n (bX a.f.P), .g (.int .i64 (a.f.d)), .g (.int .i64 (a.f.s)), .lst 6 a.f.m (bX a.f.S), .g (.int .i64 (a.x)), .g (.int .i64 (a.y)), .g (.int .i64 (a.r)), .g (.int .i64 (a.d)), .g (.int .i64 (a.s))], .agg [.g (.int .i64 (b.kd)), .g (.int .i64 (b.id)), .g (.int .i64 (b.f.id)), .g (.int .i64 (b.f.kd)), .g (.int .i64 (b.f.x)), .g (.int .i64 (b.f.y)), .g (.int .i64 (b.f.r)), .lst 2 b.f.n (bX b.f.P), .g (.int .i64 (b.f.d)), .g (.int .i64 (b.f.s)), .lst 6 b.f.m (bX b.f.S), .g (.int .i64 (b.x)), .g (.int .i64 (b.y)), .g (.int .i64 (b.r)), .g (.int .i64 (b.d)), .g (.int .i64 (b.s))]] (.t (.one (.g (.bool (FZ a b))))) := by
  refine ah Tryz.func149 rfl (by rw [Tryz.ntmps149]; simp) ?_
  simp only [Tryz.ntmps149, zM, PT.tv, ak, Nat.zero_add, Nat.reduceAdd]
  repeat' (first
 | ((with_reducible show AW _ _ _ _); first
 | (with_reducible first | refine aS (fun K hK => ?_) | refine aT ?_)
 | (first
 | (with_reducible first | refine aP 0 [0,1] ?_ | refine aP 1 [2,3] ?_)))
 | (((with_reducible refine Need.mk ?_)); focus ((intro _; (with_reducible assumption))))
 | (with_reducible refine aA ?_)
 | ((with_reducible show bK _ _ _ _ _ _ _ _ _ _); first
 | (refine aQ (k := 180) HZ (fun hg => Yp _ _ ha hb) ?_ ?_))
 | ((fail_if_success (with_reducible show AW _ _ _ _)); simp (maxSteps := 2000000) only [go_sem, reduceIte, reduceCtorEq, xA, xL, xD, xE, xM, xS, xB, Tryz.f149, Go.Sea.ng])
 | ((with_reducible refine hK _ ?_); clear hK K))
  all_goals (unfold FZ; refine Bool.eq_iff_iff.2 ?_; simp only [Bool.and_eq_true, decide_eq_true_eq, beq_iff_eq, and_assoc])
theorem ac7 (a : bT) (ha : a.f.Ok) (k i : Int) : au Tryz.prog 149 [.agg [.g (.int .i64 (a.kd)), .g (.int .i64 (a.id)), .g (.int .i64 (a.f.id)), .g (.int .i64 (a.f.kd)), .g (.int .i64 (a.f.x)), .g (.int .i64 (a.f.y)), .g (.int .i64 (a.f.r)), .lst 2 a.f.n (bX a.f.P), .g (.int .i64 (a.f.d)), .g (.int .i64 (a.f.s)), .lst 6 a.f.m (bX a.f.S), .g (.int .i64 (a.x)), .g (.int .i64 (a.y)), .g (.int .i64 (a.r)), .g (.int .i64 (a.d)), .g (.int .i64 (a.s))], .agg [.g (.int .i64 k), .g (.int .i64 i), .g (.int .i64 0), .g (.int .i64 0), .g (.int .i64 0), .g (.int .i64 0), .g (.int .i64 0), .g (.slice none 0 0), .g (.int .i64 0), .g (.int .i64 0), .g (.slice none 0 0), .g (.int .i64 0), .g (.int .i64 0), .g (.int .i64 0), .g (.int .i64 0), .g (.int .i64 0)]] (.t (.one (.g (.bool (FZ a (Zp k i)))))) := by
  exact (ahX a (Zp k i) ha jm).eqv (by simp [Zp, bL, aU, PT.eqv, IV.eqv]; exact ⟨fun i o _ _ => IV.aG _, fun i o _ _ => IV.aG _⟩) (PV.aG _)
theorem ajB (o : bT) (ho : o.f.Ok) : au Tryz.prog 126 [.agg [.g (.int .i64 (o.kd)), .g (.int .i64 (o.id)), .g (.int .i64 (o.f.id)), .g (.int .i64 (o.f.kd)), .g (.int .i64 (o.f.x)), .g (.int .i64 (o.f.y)), .g (.int .i64 (o.f.r)), .lst 2 o.f.n (bX o.f.P), .g (.int .i64 (o.f.d)), .g (.int .i64 (o.f.s)), .lst 6 o.f.m (bX o.f.S), .g (.int .i64 (o.x)), .g (.int .i64 (o.y)), .g (.int .i64 (o.r)), .g (.int .i64 (o.d)), .g (.int .i64 (o.s))]] (.t (.one (.g (.bool (oQ o))))) := by
  refine ah Tryz.func126 rfl (by rw [Tryz.ntmps126]; simp) ?_
  simp only [Tryz.ntmps126, zM, PT.tv, ak, Nat.zero_add, Nat.reduceAdd]
  repeat' (first
 | ((with_reducible show AW _ _ _ _); first
 | (with_reducible first | refine aS (fun K hK => ?_) | refine aI ?_ | refine aT ?_ | refine aC ?_ | refine aB ?_)
 | (first
 | (with_reducible refine aP 0 [0] ?_)
 | ((with_reducible refine aR (c := Code.region 1 _ true) [1] ?_); (with_reducible refine aD ?_ ?_ ?_ ?_); (focus kernel_rfl); (focus kernel_rfl); (focus kernel_rfl))
 | (with_reducible first | refine aP 2 [] ?_ | refine aP 3 [1] ?_ | refine aP 4 [1,23] ?_ | refine aP 5 [1] ?_ | refine aP 6 [1,23] ?_ | refine aP 7 [] ?_ | refine aP 8 [1,23] ?_ | refine aP 9 [1] ?_ | refine aP 10 [1,23] ?_ | refine aP 11 [1] ?_ | refine aP 12 [1,23] ?_ | refine aP 13 [1] ?_ | refine aP 14 [] ?_)))
 | ((first | (with_reducible refine And.intro ?_ ?_) | (with_reducible refine Need.mk ?_)); focus (first | (intro _; (with_reducible assumption)) | (simp; done)))
 | (with_reducible refine aA ?_)
 | ((with_reducible show aY _ _ _ _ _ _); first
 | ((with_reducible refine aH ?_ ?_) <;> (intro hc; (try simp only [zB, zC, reduceCtorEq] at hc); (try (exfalso; contradiction)))))
 | ((with_reducible refine And.intro ?_ ?_); focus ((with_reducible show fB _ _ _ = true); kernel_rfl))
 | ((with_reducible show jT _ _ _ _ _ _ _ _ _ _ _ _ _); first
 | (refine fZ (k := 150) GK (fun hg => ad5 o ho) ?_ ?_)
 | (refine fZ (k := 149) Hg (fun hg => ac7 (dR o) (UA ho) _ _) ?_ ?_))
 | ((with_reducible show bK _ _ _ _ _ _ _ _ _ _); first
 | (refine aQ (k := 115) zT (fun hg => Rv _ ho) ?_ ?_)
 | (refine aQ (k := 140) jy (fun hg => xI _ _) ?_ ?_)
 | (refine aQ (k := 151) Jj (fun hg => Zd _ _ _ (by simp only [Bool.and_eq_true, decide_eq_true_eq] at hg; exact hg.2) (by simp only [Bool.and_eq_true, decide_eq_true_eq] at hg; omega)) ?_ ?_))
 | ((fail_if_success (with_reducible show AW _ _ _ _)); simp (maxSteps := 2000000) only [go_sem, reduceIte, reduceCtorEq, xA, xL, xD, xE, xM, xS, xB, Tryz.f126])
 | ((with_reducible refine hK _ ?_); clear hK K))
  all_goals (first | exact ajm (by assumption) | exact ajp (by assumption) (by assumption) | exact aiJ (by assumption) (by assumption) | exact ai5 (by assumption) (by assumption) | exact aiH (by assumption) (by assumption) | exact ajs (by assumption) (by assumption) | exact ajh (by omega))
end Go.Proofs.YtmnejmpjmniiiaaGreatDoor
set_option maxRecDepth 100000
set_option maxHeartbeats 4000000
namespace Go.Proofs.YtmnejmpjmniiiaaGreatDoor
open Go.RowKit Go.Sea
open Nat renaming reduceAdd -> xA, reduceLT -> xL, reduceLeDiff -> xD, reduceEqDiff -> xE, reduceMul -> xM, reduceSub -> xS, reduceBEq -> xB
theorem afp : BP Tryz.prog 54 = none := by kernel_rfl
theorem EA : aM Tryz.prog 96 = true := by kernel_rfl
theorem IK : aM Tryz.prog 126 = true := by kernel_rfl
theorem zq : aM Tryz.prog 104 = true := by kernel_rfl
theorem uS : aM Tryz.prog 101 = true := by kernel_rfl
theorem Du : aM Tryz.prog 45 = true := by kernel_rfl
theorem afH : uY Tryz.prog 54 = some true := by kernel_rfl
theorem afP : oU Tryz.prog 54 = some (16, 160, 112) := by kernel_rfl
theorem afa : mU Tryz.prog 27 = some (false, 1) := by kernel_rfl
theorem ah2 : mU Tryz.prog 54 = some (false, 1) := by kernel_rfl
attribute [go_sem] afp EA IK zq uS Du afH afP afa ah2
def bG (s : Nat -> Int) (i o : Nat) : IV := .g (.int .i64 (s i))
structure ny where
  ch : Int
  q : Nat
  a : Nat -> Int
  k : Nat
  o : Nat -> bT
structure OU where
  oc : Int
  nu : Int
  kd : Int
  fr : Int
  un : Int
  ca : Int
  n : Nat
  p : Nat -> ny
structure ny.Ok (p : ny) : Prop where
  q : p.q <= 9223372036854775807
  k : p.k <= 9223372036854775807
  o : ∀ i, i < p.k -> (p.o i).f.Ok
structure OU.Ok (N : OU) : Prop where
  n : N.n <= 9223372036854775807
  p : ∀ i, i < N.n -> (N.p i).Ok
theorem Z9 {o : bT} (h : ¬ opC o (dJ o.x o.y) (lT o.x o.y o.r) (fI o.f)) : false = oQ o := (decide_eq_false h).symm
theorem afr {o : bT} (hid : 1 <= o.id /\ o.id <= 100000) (hk : 1 <= o.kd /\ o.kd <= 5) (hx : (o.kd = 1 /\ fI o.f = true /\ o.f.id = o.id) \/ (o.kd ≠ 1 /\ zF o.f)) (hy : (o.kd = 3 /\ dJ o.x o.y = true /\ lT o.x o.y o.r = true /\ 0 <= o.r /\ o.r <= 100000) \/ (o.kd ≠ 3 /\ o.x = 0 /\ o.y = 0 /\ o.r = 0)) (hd : (0 <= o.d /\ o.d <= 100000) /\ (o.kd = 4 \/ o.d = 0)) : (decide (o.s >= 0) && decide (o.s <= 999) && (o.kd == 5 || o.s == 0)) = oQ o := by
  refine Bool.eq_iff_iff.2 ?_
  rw [jM]; unfold opC; simp only [Bool.and_eq_true, Bool.or_eq_true, decide_eq_true_eq, beq_iff_eq]
  constructor
  · rintro ⟨⟨g1, g2⟩, g3⟩
    refine ⟨hid, ?_⟩
    rcases hx with ⟨h1, h2, h3⟩ | ⟨h1, h2⟩
    · left
      rcases hy with hy | hy
      · omega
      · exact ⟨h1, h3, h2, hy.2.1, hy.2.2.1, hy.2.2.2, by omega, by omega⟩
    · right
      refine ⟨h2, ?_⟩
      rcases hy with hy | hy
      · exact Or.inr (Or.inl ⟨hy.1, hy.2.2.2, hy.2.1, hy.2.2.1, by omega, by omega⟩)
      · have : o.kd = 2 \/ o.kd = 4 \/ o.kd = 5 := by omega
        rcases this with k | k | k
        · exact Or.inl ⟨k, hy.2.1, hy.2.2.1, hy.2.2.2, by omega, by omega⟩
        · exact Or.inr (Or.inr (Or.inl ⟨k, hd.1, hy.2.1, hy.2.2.1, hy.2.2.2, by omega⟩))
        · exact Or.inr (Or.inr (Or.inr ⟨k, ⟨g1, g2⟩, hy.2.1, hy.2.2.1, hy.2.2.2, by omega⟩))
  · rintro ⟨_, g | ⟨_, g | g | g | g⟩⟩
    · exact ⟨⟨by omega, by omega⟩, by omega⟩
    · exact ⟨⟨by omega, by omega⟩, by omega⟩
    · exact ⟨⟨by omega, by omega⟩, by omega⟩
    · exact ⟨⟨by omega, by omega⟩, by omega⟩
    · exact ⟨⟨by omega, by omega⟩, by omega⟩
theorem aaT {o : bT} (hk : o.kd = 3) (hc : (((dJ o.x o.y = false \/ o.r < 0) \/ o.r > 100000) \/ ¬(-1000000 <= o.x - o.r /\ o.x + o.r <= 1000000)) \/ ¬(-1000000 <= o.y - o.r /\ o.y + o.r <= 1000000)) : false = oQ o := by
  refine Z9 fun g => ?_
  obtain ⟨g1, g | ⟨gz, g | g | g | g⟩⟩ := g
  · omega
  · omega
  · have k1 := (kL _ _).1 g.2.2.1
    have k2 := (wS _ _ _).1 g.2.2.2.1
    rcases hc with (((hc | hc) | hc) | hc) | hc
    · rw [g.2.2.1] at hc; cases hc
    all_goals omega
  · omega
  · omega
theorem Xd {o : bT} (hc : (((dJ o.x o.y = true /\ 0 <= o.r) /\ o.r <= 100000) /\ -1000000 <= o.x - o.r /\ o.x + o.r <= 1000000) /\ -1000000 <= o.y - o.r /\ o.y + o.r <= 1000000) : dJ o.x o.y = true /\ lT o.x o.y o.r = true /\ 0 <= o.r /\ o.r <= 100000 := by
  have k1 := (kL _ _).1 hc.1.1.1.1
  exact ⟨hc.1.1.1.1, (wS _ _ _).2 (by omega), hc.1.1.1.2, hc.1.1.2⟩
def acQ : bT -> Nat -> IV
  | o, 0 => .g (.int .i64 (o.kd))
  | o, 1 => .g (.int .i64 (o.id))
  | o, 2 => .g (.int .i64 (o.f.id))
  | o, 3 => .g (.int .i64 (o.f.kd))
  | o, 4 => .g (.int .i64 (o.f.x))
  | o, 5 => .g (.int .i64 (o.f.y))
  | o, 6 => .g (.int .i64 (o.f.r))
  | o, 7 => .lst 2 o.f.n (bX o.f.P)
  | o, 8 => .g (.int .i64 (o.f.d))
  | o, 9 => .g (.int .i64 (o.f.s))
  | o, 10 => .lst 6 o.f.m (bX o.f.S)
  | o, 11 => .g (.int .i64 (o.x))
  | o, 12 => .g (.int .i64 (o.y))
  | o, 13 => .g (.int .i64 (o.r))
  | o, 14 => .g (.int .i64 (o.d))
  | o, _ + 15 => .g (.int .i64 (o.s))
def fu (o : Nat -> bT) (i c : Nat) : IV := acQ (o i) c
theorem agK (o : Nat -> bT) (i : Nat) : fu o i 0 = .g (.int .i64 ((o i).kd)) := rfl
theorem ahB (o : Nat -> bT) (i : Nat) : fu o i 1 = .g (.int .i64 ((o i).id)) := rfl
theorem aii (o : Nat -> bT) (i : Nat) : fu o i 2 = .g (.int .i64 ((o i).f.id)) := rfl
theorem ait (o : Nat -> bT) (i : Nat) : fu o i 3 = .g (.int .i64 ((o i).f.kd)) := rfl
theorem ahQ (o : Nat -> bT) (i : Nat) : fu o i 4 = .g (.int .i64 ((o i).f.x)) := rfl
theorem ae2 (o : Nat -> bT) (i : Nat) : fu o i 5 = .g (.int .i64 ((o i).f.y)) := rfl
theorem ah3 (o : Nat -> bT) (i : Nat) : fu o i 6 = .g (.int .i64 ((o i).f.r)) := rfl
theorem ae7 (o : Nat -> bT) (i : Nat) : fu o i 7 = .lst 2 (o i).f.n (bX (o i).f.P) := rfl
theorem afN (o : Nat -> bT) (i : Nat) : fu o i 8 = .g (.int .i64 ((o i).f.d)) := rfl
theorem agq (o : Nat -> bT) (i : Nat) : fu o i 9 = .g (.int .i64 ((o i).f.s)) := rfl
theorem abQ (o : Nat -> bT) (i : Nat) : fu o i 10 = .lst 6 (o i).f.m (bX (o i).f.S) := rfl
theorem abm (o : Nat -> bT) (i : Nat) : fu o i 11 = .g (.int .i64 ((o i).x)) := rfl
theorem aev (o : Nat -> bT) (i : Nat) : fu o i 12 = .g (.int .i64 ((o i).y)) := rfl
theorem acI (o : Nat -> bT) (i : Nat) : fu o i 13 = .g (.int .i64 ((o i).r)) := rfl
theorem ace (o : Nat -> bT) (i : Nat) : fu o i 14 = .g (.int .i64 ((o i).d)) := rfl
theorem adj (o : Nat -> bT) (i : Nat) : fu o i 15 = .g (.int .i64 ((o i).s)) := rfl
attribute [go_sem] agK ahB aii ait ahQ ae2 ah3 ae7 afN agq abQ abm aev acI ace adj
def ahN : ny -> Nat -> IV
  | p, 0 => .g (.int .i64 p.ch)
  | p, 1 => .lst 1 p.q (bG p.a)
  | p, _ + 2 => .lst 16 p.k (fu p.o)
def UL (p : Nat -> ny) (i c : Nat) : IV := ahN (p i) c
theorem aaO (p : Nat -> ny) (i : Nat) : UL p i 0 = .g (.int .i64 (p i).ch) := rfl
theorem abH (p : Nat -> ny) (i : Nat) : UL p i 1 = .lst 1 (p i).q (bG (p i).a) := rfl
theorem aco (p : Nat -> ny) (i : Nat) : UL p i 2 = .lst 16 (p i).k (fu (p i).o) := rfl
attribute [go_sem] aaO abH aco
def acN (a : Nat -> Int) (nu : Int) (i : Nat) : Prop := 1 <= a i /\ a i < nu /\ (0 < i -> a (i - 1) < a i)
instance (a : Nat -> Int) (nu : Int) (i : Nat) : Decidable (acN a nu i) := by unfold acN; infer_instance
def Q5 (p : ny) (nu : Int) : Prop := ((1 <= p.ch /\ p.ch <= 1000) /\ p.q <= 100 /\ p.k <= 100) /\ (∀ i, i < p.q -> acN p.a nu i) /\ ∀ i, i < p.k -> oQ (p.o i) = true
instance (p : ny) (nu : Int) : Decidable (Q5 p nu) := by unfold Q5; infer_instance
def aeS (p : ny) (nu : Int) : Bool := decide (Q5 p nu)
def QU (n : OU) : Prop := (n.kd = 1 \/ n.kd = 3) /\ n.un = 0 /\ n.ca = 0 \/ n.kd = 2 /\ n.fr < n.un /\ 0 <= n.un /\ n.un <= 10000000 /\ n.ca = 0 \/ n.kd = 4 /\ n.un = 0 /\ 1 <= n.ca /\ n.ca < n.nu /\ n.n = 0
instance (n : OU) : Decidable (QU n) := by unfold QU; infer_instance
def agp (n : OU) : Prop := ((1 <= n.oc /\ n.oc <= 20) /\ (1 <= n.nu /\ n.nu <= 10000) /\ (0 <= n.fr /\ n.fr <= 10000000)) /\ QU n /\ n.n <= 20
instance (n : OU) : Decidable (agp n) := by unfold agp; infer_instance
def npO (p : Nat -> ny) (nu : Int) (i : Nat) : Prop := (0 < i -> (p (i - 1)).ch < (p i).ch) /\ aeS (p i) nu = true
instance (p : Nat -> ny) (nu : Int) (i : Nat) : Decidable (npO p nu i) := by unfold npO; infer_instance
theorem Pn (f : aF) (hf : f.Ok) : au Tryz.prog 45 [.agg [.g (.int .i64 (f.id)), .g (.int .i64 (f.kd)), .g (.int .i64 (f.x)), .g (.int .i64 (f.y)), .g (.int .i64 (f.r)), .lst 2 f.n (bX f.P), .g (.int .i64 (f.d)), .g (.int .i64 (f.s)), .lst 6 f.m (bX f.S)], .agg [.g (.int .i64 0), .g (.int .i64 0), .g (.int .i64 0), .g (.int .i64 0), .g (.int .i64 0), .g (.slice none 0 0), .g (.int .i64 0), .g (.int .i64 0), .g (.slice none 0 0)]] (.t (.one (.g (.bool (decide (zF f)))))) := by
  have e : decide (zF f) = tF f bL := by
    refine Bool.eq_iff_iff.2 ?_; rw [decide_eq_true_eq, Uc]
  rw [e]
  exact (Gg f bL hf jm).eqv (by simp [bL, aU, PT.eqv, IV.eqv]; exact ⟨fun i o _ _ => IV.aG _, fun i o _ _ => IV.aG _⟩) (PV.aG _)
theorem aiu (o : bT) (ho : o.f.Ok) : au Tryz.prog 106 [.agg [.g (.int .i64 (o.kd)), .g (.int .i64 (o.id)), .g (.int .i64 (o.f.id)), .g (.int .i64 (o.f.kd)), .g (.int .i64 (o.f.x)), .g (.int .i64 (o.f.y)), .g (.int .i64 (o.f.r)), .lst 2 o.f.n (bX o.f.P), .g (.int .i64 (o.f.d)), .g (.int .i64 (o.f.s)), .lst 6 o.f.m (bX o.f.S), .g (.int .i64 (o.x)), .g (.int .i64 (o.y)), .g (.int .i64 (o.r)), .g (.int .i64 (o.d)), .g (.int .i64 (o.s))]] (.t (.one (.g (.bool (oQ o))))) := by
  refine ah Tryz.func106 rfl (by rw [Tryz.ntmps106]; simp) ?_
  simp only [Tryz.ntmps106, zM, PT.tv, ak, Nat.zero_add, Nat.reduceAdd]
  repeat' (first
 | ((with_reducible show AW _ _ _ _); first
 | (with_reducible first | refine aS (fun K hK => ?_) | refine aI ?_ | refine aT ?_ | refine aC ?_)
 | (first
 | (with_reducible first | refine aP 0 [0] ?_ | refine aP 1 [1] ?_ | refine aP 2 [] ?_ | refine aP 3 [1] ?_ | refine aP 4 [1] ?_ | refine aP 5 [] ?_ | refine aP 6 [1] ?_ | refine aP 7 [] ?_ | refine aP 8 [1] ?_ | refine aP 9 [1] ?_ | refine aP 10 [] ?_ | refine aP 11 [1] ?_ | refine aP 12 [] ?_ | refine aP 13 [1] ?_ | refine aP 14 [] ?_ | refine aP 15 [1] ?_)))
 | ((first | (with_reducible refine And.intro ?_ ?_) | (with_reducible refine Need.mk ?_)); focus (first | exact True.intro | (intro _; (with_reducible assumption)) | (simp; done) | (simp; omega)))
 | (with_reducible refine aA ?_)
 | ((with_reducible show aY _ _ _ _ _ _); first
 | ((with_reducible refine aH ?_ ?_) <;> (intro hc; (try simp only [zB, zC, reduceCtorEq] at hc); (try (exfalso; omega)))))
 | ((with_reducible show aN _ _ _ _ _ _ _ _ _ _); first
 | (refine aj (k := 104) zq (M5 _ ho) ?_ ?_)
 | (refine aj (k := 45) Du (Pn _ ho) ?_ ?_)
 | (refine aj (k := 128) p8 (Ee _ _) ?_ ?_))
 | ((with_reducible show bK _ _ _ _ _ _ _ _ _ _); first
 | (refine aQ (k := 129) qO (fun hg => yZ o.x _ (by have h1 : dJ o.x o.y = true /\ ¬ o.r < 0 /\ ¬ o.r > 100000 := (by simp_all); have := (kL _ _).1 h1.1; omega) (by have h1 : ¬ o.r < 0 /\ ¬ o.r > 100000 := (by simp_all); omega)) ?_ ?_)
 | (refine aQ (k := 129) qO (fun hg => yZ o.y _ (by have h1 : dJ o.x o.y = true /\ ¬ o.r < 0 /\ ¬ o.r > 100000 := (by simp_all); have := (kL _ _).1 h1.1; omega) (by have h1 : ¬ o.r < 0 /\ ¬ o.r > 100000 := (by simp_all); omega)) ?_ ?_))
 | ((fail_if_success (with_reducible show AW _ _ _ _)); simp (maxSteps := 2000000) only [go_sem, reduceIte, reduceCtorEq, xA, xL, xD, xE, xM, xS, xB, Tryz.f106, Go.Sea.ng])
 | ((with_reducible refine hK _ ?_); clear hK K))
  all_goals (first | (refine Z9 fun g => ?_; obtain ⟨g1, g | ⟨gz, g | g | g | g⟩⟩ := g <;> first | omega | (simp_all; done)) | exact aaT (by assumption) hc | exact afr (by omega) (by omega) (by (first | exact Or.inl ⟨by assumption, by assumption⟩ | exact Or.inr ⟨by assumption, by assumption⟩)) (by (first | exact Or.inl ⟨by assumption, Xd (by assumption)⟩ | exact Or.inr ⟨by assumption, by omega, by omega, by omega⟩)) hc)
end Go.Proofs.YtmnejmpjmniiiaaGreatDoor
namespace Go.Proofs.YtmnejmpjmniiiaaGreatDoor
open Go.RowKit Go.Sea
open Nat renaming reduceAdd -> xA, reduceLT -> xL, reduceLeDiff -> xD, reduceEqDiff -> xE, reduceMul -> xM, reduceSub -> xS, reduceBEq -> xB
theorem aho : BP Tryz.prog 22 = none := by kernel_rfl
theorem ahp : uY Tryz.prog 22 = some true := by kernel_rfl
theorem afW : oU Tryz.prog 22 = some (9, 104, 66) := by kernel_rfl
attribute [go_sem] aho ahp afW
def UE : aF -> Nat -> IV
  | f, 0 => .g (.int .i64 (f.id))
  | f, 1 => .g (.int .i64 (f.kd))
  | f, 2 => .g (.int .i64 (f.x))
  | f, 3 => .g (.int .i64 (f.y))
  | f, 4 => .g (.int .i64 (f.r))
  | f, 5 => .lst 2 f.n (bX f.P)
  | f, 6 => .g (.int .i64 (f.d))
  | f, 7 => .g (.int .i64 (f.s))
  | f, _ + 8 => .lst 6 f.m (bX f.S)
def bq (f : Nat -> aF) (i c : Nat) : IV := UE (f i) c
theorem ab2 (f : Nat -> aF) (i : Nat) : bq f i 0 = .g (.int .i64 ((f i).id)) := rfl
theorem ads (f : Nat -> aF) (i : Nat) : bq f i 1 = .g (.int .i64 ((f i).kd)) := rfl
theorem abE (f : Nat -> aF) (i : Nat) : bq f i 2 = .g (.int .i64 ((f i).x)) := rfl
theorem abb (f : Nat -> aF) (i : Nat) : bq f i 3 = .g (.int .i64 ((f i).y)) := rfl
theorem aep (f : Nat -> aF) (i : Nat) : bq f i 4 = .g (.int .i64 ((f i).r)) := rfl
theorem aed (f : Nat -> aF) (i : Nat) : bq f i 5 = .lst 2 (f i).n (bX (f i).P) := rfl
theorem ad4 (f : Nat -> aF) (i : Nat) : bq f i 6 = .g (.int .i64 ((f i).d)) := rfl
theorem acW (f : Nat -> aF) (i : Nat) : bq f i 7 = .g (.int .i64 ((f i).s)) := rfl
theorem abo (f : Nat -> aF) (i : Nat) : bq f i 8 = .lst 6 (f i).m (bX (f i).S) := rfl
attribute [go_sem] ab2 ads abE abb aep aed ad4 acW abo
def Lh (f : Nat -> aF) (i : Nat) : Int := if i = 0 then 0 else (f (i - 1)).id
theorem Ke (f : Nat -> aF) (i : Nat) : Lh f (i + 1) = (f i).id := by simp [Lh]
def FM (f : Nat -> aF) (i : Nat) : Prop := fI (f i) = true /\ (0 < i -> (f (i - 1)).id < (f i).id)
instance (f : Nat -> aF) (i : Nat) : Decidable (FM f i) := by unfold FM; infer_instance
def gM (n : Nat) (f : Nat -> aF) : Bool := decide (n <= 300 /\ ∀ i, i < n -> FM f i)
theorem Xi {f : aF} (h : fI f = true) : 1 <= f.id := ((jq f).1 h).1.1
theorem afO {n : Nat} {f : Nat -> aF} {i : Nat} (hi : (i : Int) < n) (h : fI (f i) = false \/ (f i).id <= Lh f i) : false = gM n f := (decide_eq_false fun g => by
  have g1 := g.2 i (by omega)
  rcases h with h | h
  · rw [g1.1] at h; cases h
  · have := Xi g1.1
    unfold Lh at h
    by_cases h0 : i = 0
    · rw [if_pos h0] at h; omega
    · rw [if_neg h0] at h; have := g1.2 (by omega); omega).symm
theorem afT {f : Nat -> aF} {i : Nat} (h : fI (f i) = true /\ Lh f i < (f i).id) : FM f i := by
  refine ⟨h.1, fun h0 => ?_⟩
  have := h.2
  unfold Lh at this; rw [if_neg (by omega)] at this; exact this
theorem agR {n : Nat} {f : Nat -> aF} {i : Nat} (hi : (n : Int) <= i) (g : ∀ i', i' < i -> FM f i') : decide ((n : Int) <= 300) = gM n f := by
  unfold gM; exact decide_eq_decide.2 ⟨fun h => ⟨by omega, fun k hk => g k (by omega)⟩, fun h => by omega⟩
theorem aew {n : Nat} {f : Nat -> aF} (h : (n : Int) > 300) : false = gM n f := (decide_eq_false fun g => by omega).symm
theorem aa6 {n : Nat} {f : Nat -> aF} {i : Nat} (hi : (i : Int) < n) (h : fI (f i) = false \/ (i : Int) > 0 /\ (f i).id <= (f (i - 1)).id) : false = gM n f := (decide_eq_false fun g => by
  have g1 := g.2 i (by omega)
  rcases h with h | h
  · rw [g1.1] at h; cases h
  · have := g1.2 (by omega); omega).symm
theorem adb {n : Nat} {f : Nat -> aF} {i : Nat} (h : (n : Int) <= 300) (hi : (n : Int) <= i) (g : ∀ i', i' < i -> FM f i') : true = gM n f := (decide_eq_true ⟨by omega, fun k hk => g k (by omega)⟩).symm
structure abr where
  A : Int
  B : Int
  C : Int
  D : Int
  E : Int
  F : Int
  R : Int
def agk (m : abr) : Prop := ((-2000000 <= m.A /\ m.A <= 2000000) /\ (-2000000 <= m.B /\ m.B <= 2000000) /\ (-2000000 <= m.D /\ m.D <= 2000000) /\ (-2000000 <= m.E /\ m.E <= 2000000)) /\ 250000000000 <= m.A * m.E - m.B * m.D /\ (-100000 <= m.C /\ m.C <= 100000) /\ (-100000 <= m.F /\ m.F <= 100000) /\ (0 <= m.R /\ m.R <= 1000)
instance (m : abr) : Decidable (agk m) := by unfold agk; infer_instance
structure agG where
  ch : Int
  sc : Int
  ed : Int
  m : abr
  cap : Int
  q : Nat
  dn : Nat -> Int
  n : Nat
  f : Nat -> aF
structure agG.Ok (s : agG) : Prop where
  q : s.q <= 9223372036854775807
  n : s.n <= 9223372036854775807
  f : ∀ i, i < s.n -> (s.f i).Ok
set_option maxRecDepth 100000 in
set_option maxHeartbeats 4000000 in
theorem uN (n : Nat) (f : Nat -> aF) (hn : n <= 9223372036854775807) (hf : ∀ i, i < n -> (f i).Ok) : au Tryz.prog 89 [.one (.lst 9 n (bq f))] (.t (.one (.g (.bool (gM n f))))) := by
  refine ah Tryz.func89 rfl (by rw [Tryz.ntmps89]; simp) ?_
  simp only [Tryz.ntmps89, zM, PT.tv, ak, Nat.zero_add, Nat.reduceAdd]
  repeat' (first
 | ((with_reducible show AW _ _ _ _); first
 | (with_reducible first | refine aS (fun K hK => ?_) | refine aI ?_ | refine aX ?_ | refine aT ?_ | refine aC ?_ | refine aB ?_)
 | (first
 | (with_reducible first | refine aP 0 [0] ?_ | refine aP 1 [0] ?_ | refine aP 2 [0,3] ?_ | refine aP 3 [0,3,6,7,8] ?_ | refine aP 4 [0,3,6,7,8] ?_ | refine aP 5 [0,3,5,6,7,8] ?_ | refine aP 6 [] ?_ | refine aP 7 [0,5,6,7,8] ?_ | refine aP 8 [0,3,6,7,8] ?_ | refine aP 9 [0] ?_))
 | ((with_reducible show AW _ (Code.loop _) _ _); first
 | ((with_reducible refine aL (c := (Code.seq (Code.region 3 _ _) _)) (ι := Nat) [0,6,7] (fun i => [(3, iA .i64 (Lh f i)), (8, iA .i64 (i : Int))]) (fun i => []) (fun i => i <= n /\ (∀ i', i' < i -> FM f i')) (fun i => n - i) 0 ?lg3 ?l13 ?l23 ?li3 ?lr3); (case' lg3 => rintro i _); (case' li3 => try (exact ⟨Nat.zero_le _, fun i hi => absurd hi (Nat.not_lt_zero _)⟩)); (case' lr3 => rintro i ⟨hi, hai⟩ KR hR3; simp only [bf, bN, hset, lk, if_true, if_false, xE, reduceIte, zN, Ke]))))
 | ((first | (with_reducible refine And.intro ?_ ?_) | (with_reducible refine Need.mk ?_)); focus (first | exact True.intro | omega | (simp; done)))
 | (with_reducible refine aA ?_)
 | ((with_reducible show aY _ _ _ _ _ _); first
 | ((with_reducible refine aH ?_ ?_) <;> (intro hc; (try simp only [zB, zC, reduceCtorEq] at hc); (try (exfalso; contradiction)))))
 | ((with_reducible show aN _ _ _ _ _ _ _ _ _ _); first
 | (refine aj (k := 115) zT (Rv (f i) (hf i (by omega))) ?_ ?_))
 | ((with_reducible refine hR3 _ (i + 1) ?_); (try clear hR3 KR))
 | ((with_reducible refine Told.mk ?_); simp only [go_sem, reduceIte, reduceCtorEq, xA, xL, xD, xE, xM, xS, xB, Ke] <;> ((((try simp (disch := omega) only [aJ, Int.natCast_add, Int.cast_ofNat_Int, and_true, true_and, and_self]); (repeat' (first | omega | rfl | (with_reducible refine And.intro ?_ ?_) | ((exact all_succ (by assumption) (afT hc))))); done))))
 | ((fail_if_success (with_reducible show AW _ _ _ _)); simp (maxSteps := 2000000) only [go_sem, reduceIte, reduceCtorEq, xA, xL, xD, xE, xM, xS, xB, Tryz.f89, Ke])
 | ((with_reducible refine hK _ ?_); clear hK K)
 | (with_reducible apply_assumption -exfalso only [*]))
  all_goals first | exact afO (by assumption) hc | exact agR (by assumption) hai | skip
end Go.Proofs.YtmnejmpjmniiiaaGreatDoor
set_option maxRecDepth 100000
set_option maxHeartbeats 4000000
namespace Go.Proofs.YtmnejmpjmniiiaaGreatDoor
open Go.RowKit Go.Sea
open Nat renaming reduceAdd -> xA, reduceLT -> xL, reduceLeDiff -> xD, reduceEqDiff -> xE, reduceMul -> xM, reduceSub -> xS, reduceBEq -> xB
theorem SV : aM Tryz.prog 116 = true := by kernel_rfl
theorem Dn : aM Tryz.prog 98 = true := by kernel_rfl
theorem uK : aM Tryz.prog 168 = true := by kernel_rfl
attribute [go_sem] Dn uK
def dY (f : aF) (o : bT) : Int := if (o.kd = 3 /\ ((f.kd = 3 \/ f.kd = 6) \/ f.kd = 4 /\ o.r ≠ 0)) \/ (o.kd = 4 /\ (f.kd = 4 \/ f.kd = 6)) then 12 else 0
def fD (f : aF) (o : bT) : aF := if o.kd = 3 then { f with x := o.x, y := o.y, r := o.r } else if o.kd = 4 then { f with d := o.d } else if o.kd = 5 then { f with s := o.s } else f
def idx (L : List aF) (k : Int) : Option aF := L.find? fun f => f.id = k
def iP (L : List aF) (f : aF) : List aF := L.filter (fun g => g.id < f.id) ++ f :: L.filter (fun g => f.id < g.id)
def iL (L : List aF) (k : Int) : List aF := L.filter fun g => g.id ≠ k
def qU (L : List aF) : Prop := L.Pairwise fun f g => f.id < g.id
def gJ (L : List aF) (o : bT) : Int × List aF :=
  if o.kd = 1 then (match idx L o.id with
    | some _ => (5, L)
    | none => if 300 <= L.length then (2, L) else (0, iP L o.f))
  else match idx L o.id with
    | none => (4, L)
    | some f => if o.kd = 2 then (0, iL L o.id) else if dY f o = 0 then (0, iP (iL L o.id) (fD f o)) else (dY f o, L)
theorem Ew (f : aF) (o : bT) : (fD f o).id = f.id := by
  unfold fD; repeat' split
  all_goals rfl
theorem fV {L : List aF} {k : Int} {f : aF} (h : idx L k = some f) : f ∈ L /\ f.id = k := by
  have h1 := List.find?_some h
  exact ⟨List.mem_of_find?_eq_some h, by simpa using h1⟩
theorem nD {L : List aF} {k : Int} : idx L k = none ↔ ∀ f, f ∈ L -> f.id ≠ k := by
  unfold idx; rw [List.find?_eq_none]; simp
theorem rU {L : List aF} (h : qU L) {f : aF} (hf : f ∈ L) : idx L f.id = some f := by
  induction L with
  | nil => cases hf
  | cons g L ih =>
    have h1 := List.pairwise_cons.1 h
    unfold idx
    rw [List.find?_cons]
    rcases List.mem_cons.1 hf with e | e
    · subst e; simp
    · have := h1.1 f e
      rw [decide_eq_false (by omega)]
      exact ih h1.2 e
theorem tJ {L : List aF} (h : qU L) (p : aF -> Bool) : qU (L.filter p) := List.Pairwise.filter p h
theorem rT {L : List aF} (h : qU L) (k : Int) : qU (iL L k) := tJ h _
theorem yx {L : List aF} (h : qU L) (f : aF) : qU (iP L f) := by
  unfold iP qU
  rw [List.pairwise_append]
  refine ⟨tJ h _, List.pairwise_cons.2 ⟨fun g hg => ?_, tJ h _⟩, fun a ha b hb => ?_⟩
  · simpa using (List.mem_filter.1 hg).2
  · have h1 : a.id < f.id := by simpa using (List.mem_filter.1 ha).2
    rcases List.mem_cons.1 hb with e | e
    · subst e; exact h1
    · have h2 : f.id < b.id := by simpa using (List.mem_filter.1 e).2
      omega
theorem yO {L : List aF} {f g : aF} : g ∈ iP L f ↔ g = f \/ (g ∈ L /\ g.id ≠ f.id) := by
  unfold iP
  simp only [List.mem_append, List.mem_cons, List.mem_filter, decide_eq_true_eq]
  constructor
  · rintro (⟨h1, h2⟩ | h | ⟨h1, h2⟩)
    · exact Or.inr ⟨h1, by omega⟩
    · exact Or.inl h
    · exact Or.inr ⟨h1, by omega⟩
  · rintro (h | ⟨h1, h2⟩)
    · exact Or.inr (Or.inl h)
    · rcases Int.lt_or_lt_of_ne h2 with h3 | h3
      · exact Or.inl ⟨h1, h3⟩
      · exact Or.inr (Or.inr ⟨h1, h3⟩)
theorem yY {L : List aF} {k : Int} {g : aF} : g ∈ iL L k ↔ g ∈ L /\ g.id ≠ k := by
  unfold iL; simp [List.mem_filter]
theorem yJ {L : List aF} (h : qU L) (f : aF) (k : Int) : idx (iP L f) k = if k = f.id then some f else idx L k := by
  by_cases hk : k = f.id
  · rw [if_pos hk, hk]; exact rU (yx h f) (yO.2 (Or.inl rfl))
  · rw [if_neg hk]
    cases hi : idx L k with
    | none =>
      rw [nD] at hi ⊢
      intro g hg
      rcases yO.1 hg with e | e
      · subst e; exact fun h' => hk h'.symm
      · exact hi g e.1
    | some g =>
      obtain ⟨h1, h2⟩ := fV hi
      rw [<- h2]
      exact rU (yx h f) (yO.2 (Or.inr ⟨h1, by omega⟩))
theorem rM {L : List aF} (h : qU L) (c k : Int) : idx (iL L c) k = if k = c then none else idx L k := by
  by_cases hk : k = c
  · rw [if_pos hk, hk, nD]
    intro g hg; exact (yY.1 hg).2
  · rw [if_neg hk]
    cases hi : idx L k with
    | none =>
      rw [nD] at hi ⊢
      intro g hg; exact hi g (yY.1 hg).1
    | some g =>
      obtain ⟨h1, h2⟩ := fV hi
      rw [<- h2]
      exact rU (rT h c) (yY.2 ⟨h1, by omega⟩)
theorem DJ {L : List aF} (h : qU L) {k : Int} {f : aF} (hf : idx L k = some f) : (iL L k).length + 1 = L.length := by
  induction L with
  | nil => simp [idx] at hf
  | cons g L ih =>
    have h1 := List.pairwise_cons.1 h
    unfold iL
    rw [List.filter_cons]
    by_cases hg : g.id = k
    · have e : L.filter (fun g => decide (g.id ≠ k)) = L := List.filter_eq_self.2 fun a ha => by
        have := h1.1 a ha
        simp; omega
      rw [if_neg (by simp [hg]), e]; rfl
    · have hf' : idx L k = some f := by
        unfold idx at hf ⊢
        rw [List.find?_cons, decide_eq_false hg] at hf
        exact hf
      have := ih h1.2 hf'
      unfold iL at this
      simp [hg]; simpa using this
theorem yj {L : List aF} {f : aF} (hf : idx L f.id = none) : (iP L f).length = L.length + 1 := by
  have h := nD.1 hf
  clear hf
  unfold iP
  rw [List.length_append, List.length_cons]
  induction L with
  | nil => rfl
  | cons g L ih =>
    have h1 := h g (List.mem_cons_self ..)
    have h2 := ih fun a ha => h a (List.mem_cons_of_mem _ ha)
    rw [List.filter_cons, List.filter_cons]
    rcases Int.lt_or_lt_of_ne h1 with h3 | h3
    · have h4 : ¬ f.id < g.id := by omega
      simp [h3, h4] at h2 ⊢; omega
    · have h4 : ¬ g.id < f.id := by omega
      simp [h3, h4] at h2 ⊢; omega
theorem L9 : ∀ {l m : List Int}, l.Pairwise (· < ·) -> m.Pairwise (· < ·) -> (∀ x, x ∈ l ↔ x ∈ m) -> l = m
  | [], [], _, _, _ => rfl
  | [], b :: m, _, _, h => absurd ((h b).2 (List.mem_cons_self ..)) (List.not_mem_nil)
  | a :: l, [], _, _, h => absurd ((h a).1 (List.mem_cons_self ..)) (List.not_mem_nil)
  | a :: l, b :: m, hl, hm, h => by
    have hl1 := List.pairwise_cons.1 hl
    have hm1 := List.pairwise_cons.1 hm
    have hab : a = b := by
      have h1 := (h a).1 (List.mem_cons_self ..)
      have h2 := (h b).2 (List.mem_cons_self ..)
      rcases List.mem_cons.1 h1 with e | e
      · exact e
      · rcases List.mem_cons.1 h2 with e2 | e2
        · exact e2.symm
        · have := hl1.1 b e2
          have := hm1.1 a e
          omega
    subst hab
    have : l = m := L9 hl1.2 hm1.2 fun x => by
      constructor
      · intro hx
        have h1 := hl1.1 x hx
        rcases List.mem_cons.1 ((h x).1 (List.mem_cons_of_mem _ hx)) with e | e
        · omega
        · exact e
      · intro hx
        have h1 := hm1.1 x hx
        rcases List.mem_cons.1 ((h x).2 (List.mem_cons_of_mem _ hx)) with e | e
        · omega
        · exact e
    rw [this]
theorem M8 {L : List aF} (h : qU L) : (L.map (·.id)).Pairwise (· < ·) := List.pairwise_map.2 h
theorem Pw {L : List aF} (h : qU L) {ks : List Int} (hk : ks.Pairwise (· < ·)) (hm : ∀ x, x ∈ ks ↔ idx L x ≠ none) : ks = L.map (·.id) := by
  refine L9 hk (M8 h) fun x => ?_
  rw [hm]
  constructor
  · intro hx
    cases hi : idx L x with
    | none => exact absurd hi hx
    | some f => exact List.mem_map.2 ⟨f, fV hi⟩
  · intro hx
    obtain ⟨f, h1, h2⟩ := List.mem_map.1 hx
    rw [<- h2, rU h h1]; simp
theorem Oa {L : List aF} (h : qU L) (o : bT) : qU (gJ L o).2 := by
  unfold gJ
  repeat' split
  all_goals first | exact h | exact yx h _ | exact rT h _ | exact yx (rT h _) _
def fO (k : Nat) (o : Nat -> bT) : Bool := decide (k <= 100 /\ ∀ i, i < k -> oQ (o i) = true)
def je (f : aF) (o : bT) : bT := if dY f o ≠ 0 then ⟨o.kd, o.id, bL, 0, 0, 0, 0, 0⟩ else if o.kd = 3 then ⟨o.kd, o.id, bL, f.x, f.y, f.r, 0, 0⟩ else if o.kd = 4 then ⟨o.kd, o.id, bL, 0, 0, 0, f.d, 0⟩ else ⟨o.kd, o.id, bL, 0, 0, 0, 0, f.s⟩
def cu (f : aF) (o : bT) : aF := if dY f o ≠ 0 then f else fD f o
theorem Di {f : aF} {o : bT} (h : (o.kd = 3 /\ ((f.kd = 3 \/ f.kd = 6) \/ f.kd = 4 /\ o.r ≠ 0)) \/ (o.kd = 4 /\ (f.kd = 4 \/ f.kd = 6))) : dY f o = 12 /\ cu f o = f /\ je f o = ⟨o.kd, o.id, bL, 0, 0, 0, 0, 0⟩ := by
  have e : dY f o = 12 := by unfold dY; rw [if_pos h]
  exact ⟨e, by unfold cu; rw [if_pos (by omega)], by unfold je; rw [if_pos (by omega)]⟩
theorem jH {f : aF} {o : bT} (h : ¬ ((o.kd = 3 /\ ((f.kd = 3 \/ f.kd = 6) \/ f.kd = 4 /\ o.r ≠ 0)) \/ (o.kd = 4 /\ (f.kd = 4 \/ f.kd = 6)))) : dY f o = 0 /\ cu f o = fD f o := by
  have e : dY f o = 0 := by unfold dY; rw [if_neg h]
  exact ⟨e, by unfold cu; rw [if_neg (by omega)]⟩
theorem CB {f : aF} {o : bT} (he : dY f o = 0) (h : o.kd = 3) : fD f o = { f with x := o.x, y := o.y, r := o.r } /\ je f o = ⟨o.kd, o.id, bL, f.x, f.y, f.r, 0, 0⟩ := ⟨by unfold fD; rw [if_pos h], by unfold je; rw [if_neg (by omega), if_pos h]⟩
theorem Db {f : aF} {o : bT} (he : dY f o = 0) (h : o.kd = 4) : fD f o = { f with d := o.d } /\ je f o = ⟨o.kd, o.id, bL, 0, 0, 0, f.d, 0⟩ := ⟨by unfold fD; rw [if_neg (by omega), if_pos h], by unfold je; rw [if_neg (by omega), if_neg (by omega), if_pos h]⟩
theorem Ct {f : aF} {o : bT} (he : dY f o = 0) (h : o.kd = 5) : fD f o = { f with s := o.s } /\ je f o = ⟨o.kd, o.id, bL, 0, 0, 0, 0, f.s⟩ := ⟨by unfold fD; rw [if_neg (by omega), if_neg (by omega), if_pos h], by unfold je; rw [if_neg (by omega), if_neg (by omega), if_neg (by omega)]⟩
theorem DV (f : aF) (ho : f.Ok) : au Tryz.prog 168 [.agg [.g (.int .i64 (f.id)), .g (.int .i64 (f.kd)), .g (.int .i64 (f.x)), .g (.int .i64 (f.y)), .g (.int .i64 (f.r)), .lst 2 f.n (bX f.P), .g (.int .i64 (f.d)), .g (.int .i64 (f.s)), .lst 6 f.m (bX f.S)]] (.t (.one (.g (.bool (decide (f.kd = 3 \/ f.kd = 6)))))) := by
  refine ah Tryz.func168 rfl (by rw [Tryz.ntmps168]; simp) ?_
  simp only [Tryz.ntmps168, zM, PT.tv, ak, Nat.zero_add, Nat.reduceAdd]
  repeat' (first
 | ((with_reducible show AW _ _ _ _); first
 | (with_reducible first | refine aS (fun K hK => ?_) | refine aT ?_)
 | (first
 | (with_reducible first | refine aP 0 [0] ?_ | refine aP 1 [1] ?_)))
 | (((with_reducible refine And.intro ?_ ?_)); focus ((simp; done)))
 | (with_reducible refine aA ?_)
 | ((fail_if_success (with_reducible show AW _ _ _ _)); simp (maxSteps := 2000000) only [go_sem, reduceIte, reduceCtorEq, xA, xL, xD, xE, xM, xS, xB, Tryz.f168])
 | ((with_reducible refine hK _ ?_); clear hK K))
  all_goals ((try refine Bool.eq_iff_iff.2 ?_); (simp only [Bool.and_eq_true, Bool.or_eq_true, Bool.not_eq_true', decide_eq_true_eq, decide_eq_false_iff_not, bne_iff_ne, beq_iff_eq, ne_eq, ge_iff_le, gt_iff_lt, cond_eq_ite, iff_self, eq_self]; done))
theorem Pg (f : aF) (o : bT) (ho : f.Ok) (ho2 : o.f.Ok) (hk : o.kd = 3) : au Tryz.prog 144 [.agg [.g (.int .i64 (f.id)), .g (.int .i64 (f.kd)), .g (.int .i64 (f.x)), .g (.int .i64 (f.y)), .g (.int .i64 (f.r)), .lst 2 f.n (bX f.P), .g (.int .i64 (f.d)), .g (.int .i64 (f.s)), .lst 6 f.m (bX f.S)], .agg [.g (.int .i64 (o.kd)), .g (.int .i64 (o.id)), .g (.int .i64 (o.f.id)), .g (.int .i64 (o.f.kd)), .g (.int .i64 (o.f.x)), .g (.int .i64 (o.f.y)), .g (.int .i64 (o.f.r)), .lst 2 o.f.n (bX o.f.P), .g (.int .i64 (o.f.d)), .g (.int .i64 (o.f.s)), .lst 6 o.f.m (bX o.f.S), .g (.int .i64 (o.x)), .g (.int .i64 (o.y)), .g (.int .i64 (o.r)), .g (.int .i64 (o.d)), .g (.int .i64 (o.s))]] (.tup [.agg [.g (.int .i64 ((cu f o).id)), .g (.int .i64 ((cu f o).kd)), .g (.int .i64 ((cu f o).x)), .g (.int .i64 ((cu f o).y)), .g (.int .i64 ((cu f o).r)), .lst 2 (cu f o).n (bX (cu f o).P), .g (.int .i64 ((cu f o).d)), .g (.int .i64 ((cu f o).s)), .lst 6 (cu f o).m (bX (cu f o).S)], .agg [.g (.int .i64 ((je f o).kd)), .g (.int .i64 ((je f o).id)), .g (.int .i64 ((je f o).f.id)), .g (.int .i64 ((je f o).f.kd)), .g (.int .i64 ((je f o).f.x)), .g (.int .i64 ((je f o).f.y)), .g (.int .i64 ((je f o).f.r)), .lst 2 (je f o).f.n (bX (je f o).f.P), .g (.int .i64 ((je f o).f.d)), .g (.int .i64 ((je f o).f.s)), .lst 6 (je f o).f.m (bX (je f o).f.S), .g (.int .i64 ((je f o).x)), .g (.int .i64 ((je f o).y)), .g (.int .i64 ((je f o).r)), .g (.int .i64 ((je f o).d)), .g (.int .i64 ((je f o).s))], .one (.g (.int .i64 (dY f o)))]) := by
  refine ah Tryz.func144 rfl (by rw [Tryz.ntmps144]; simp) ?_
  simp only [Tryz.ntmps144, zM, PT.tv, ak, Nat.zero_add, Nat.reduceAdd]
  repeat' (first
 | ((with_reducible show AW _ _ _ _); first
 | (with_reducible first | refine aS (fun K hK => ?_) | refine aI ?_ | refine aT ?_ | refine aC ?_ | refine aB ?_)
 | (first
 | (with_reducible first | refine aP 0 [0,1] ?_ | refine aP 1 [2,3,4,5] ?_ | refine aP 2 [2,3,4,5,7] ?_)
 | (with_reducible first | refine aP 4 [2,3,4,5,7,8] ?_ | refine aP 5 [2,3,4,5,7,8] ?_)
 | ((with_reducible refine aR (c := Code.region 6 _ true) [2,4,5,7] ?_); (with_reducible refine aD ?_ ?_ ?_ ?_); (focus kernel_rfl); (focus kernel_rfl); (focus kernel_rfl))
 | (with_reducible refine aP 7 [2,3,4,5,7] ?_)
 | ((with_reducible refine aR (c := Code.region 8 _ true) [2,3,4,5,7] ?_); (with_reducible refine aD ?_ ?_ ?_ ?_); (focus kernel_rfl); (focus kernel_rfl); (focus kernel_rfl))
 | ((with_reducible refine aR (c := Code.region 9 _ true) [2,3,4,5,7] ?_); (with_reducible refine aD ?_ ?_ ?_ ?_); (focus kernel_rfl); (focus kernel_rfl); (focus kernel_rfl))
 | ((with_reducible refine aR (c := Code.region 12 _ true) [2,4,5,7] ?_); (with_reducible refine aD ?_ ?_ ?_ ?_); (focus kernel_rfl); (focus kernel_rfl); (focus kernel_rfl))))
 | ((first | (with_reducible refine And.intro ?_ ?_) | (with_reducible refine Need.mk ?_)); focus (first | (intro _; (with_reducible assumption)) | (simp; omega)))
 | (with_reducible refine aA ?_)
 | ((with_reducible show aY _ _ _ _ _ _); first
 | ((with_reducible refine aH ?_ ?_) <;> (intro hc; (try simp only [zB, zC, reduceCtorEq] at hc); (try (exfalso; first | contradiction | omega)))))
 | ((with_reducible refine And.intro ?_ ?_); focus ((with_reducible show fB _ _ _ = true); kernel_rfl))
 | ((with_reducible show bK _ _ _ _ _ _ _ _ _ _); first
 | (refine aQ (k := 168) uK (fun hg => DV f ho) ?_ ?_))
 | ((fail_if_success (with_reducible show AW _ _ _ _)); simp (maxSteps := 2000000) only [go_sem, reduceIte, reduceCtorEq, xA, xL, xD, xE, xM, xS, xB, Tryz.f144])
 | ((with_reducible refine hK _ ?_); clear hK K))
  all_goals first
    | (have e := Di (f := f) (o := o) (by omega); rw [e.1, e.2.1, e.2.2]; repeat' (first | exact rfl | (with_reducible refine And.intro ?_ ?_) | (intro i q hi hq; exact IV.aG _)))
    | (have e0 := jH (f := f) (o := o) (by omega); have e := CB e0.1 (by omega); rw [e0.1, e0.2, e.1, e.2]; repeat' (first | exact rfl | (with_reducible refine And.intro ?_ ?_) | (intro i q hi hq; exact IV.aG _)))
    | (have e0 := jH (f := f) (o := o) (by omega); have e := Db e0.1 (by omega); rw [e0.1, e0.2, e.1, e.2]; repeat' (exact rfl))
    | (have e0 := jH (f := f) (o := o) (by omega); have e := Ct e0.1 (by omega); rw [e0.1, e0.2, e.1, e.2]; repeat' (exact rfl))
    | skip
theorem OV (f : aF) (o : bT) (ho : f.Ok) (ho2 : o.f.Ok) (hk : o.kd = 4) : au Tryz.prog 144 [.agg [.g (.int .i64 (f.id)), .g (.int .i64 (f.kd)), .g (.int .i64 (f.x)), .g (.int .i64 (f.y)), .g (.int .i64 (f.r)), .lst 2 f.n (bX f.P), .g (.int .i64 (f.d)), .g (.int .i64 (f.s)), .lst 6 f.m (bX f.S)], .agg [.g (.int .i64 (o.kd)), .g (.int .i64 (o.id)), .g (.int .i64 (o.f.id)), .g (.int .i64 (o.f.kd)), .g (.int .i64 (o.f.x)), .g (.int .i64 (o.f.y)), .g (.int .i64 (o.f.r)), .lst 2 o.f.n (bX o.f.P), .g (.int .i64 (o.f.d)), .g (.int .i64 (o.f.s)), .lst 6 o.f.m (bX o.f.S), .g (.int .i64 (o.x)), .g (.int .i64 (o.y)), .g (.int .i64 (o.r)), .g (.int .i64 (o.d)), .g (.int .i64 (o.s))]] (.tup [.agg [.g (.int .i64 ((cu f o).id)), .g (.int .i64 ((cu f o).kd)), .g (.int .i64 ((cu f o).x)), .g (.int .i64 ((cu f o).y)), .g (.int .i64 ((cu f o).r)), .lst 2 (cu f o).n (bX (cu f o).P), .g (.int .i64 ((cu f o).d)), .g (.int .i64 ((cu f o).s)), .lst 6 (cu f o).m (bX (cu f o).S)], .agg [.g (.int .i64 ((je f o).kd)), .g (.int .i64 ((je f o).id)), .g (.int .i64 ((je f o).f.id)), .g (.int .i64 ((je f o).f.kd)), .g (.int .i64 ((je f o).f.x)), .g (.int .i64 ((je f o).f.y)), .g (.int .i64 ((je f o).f.r)), .lst 2 (je f o).f.n (bX (je f o).f.P), .g (.int .i64 ((je f o).f.d)), .g (.int .i64 ((je f o).f.s)), .lst 6 (je f o).f.m (bX (je f o).f.S), .g (.int .i64 ((je f o).x)), .g (.int .i64 ((je f o).y)), .g (.int .i64 ((je f o).r)), .g (.int .i64 ((je f o).d)), .g (.int .i64 ((je f o).s))], .one (.g (.int .i64 (dY f o)))]) := by
  refine ah Tryz.func144 rfl (by rw [Tryz.ntmps144]; simp) ?_
  simp only [Tryz.ntmps144, zM, PT.tv, ak, Nat.zero_add, Nat.reduceAdd]
  repeat' (first
 | ((with_reducible show AW _ _ _ _); first
 | (with_reducible first | refine aS (fun K hK => ?_) | refine aT ?_ | refine aC ?_ | refine aB ?_)
 | (first
 | (with_reducible first | refine aP 0 [0,1] ?_ | refine aP 1 [2,3,4,5] ?_ | refine aP 2 [2,3,4,5,7] ?_)
 | (with_reducible first | refine aP 4 [2,3,4,5,7,8] ?_ | refine aP 5 [2,3,4,5,7,8] ?_)
 | ((with_reducible refine aR (c := Code.region 6 _ true) [2,4,5,7] ?_); (with_reducible refine aD ?_ ?_ ?_ ?_); (focus kernel_rfl); (focus kernel_rfl); (focus kernel_rfl))
 | (with_reducible refine aP 7 [2,3,4,5,7] ?_)
 | (with_reducible refine aP 10 [2,3,4,5,7] ?_)
 | ((with_reducible refine aR (c := Code.region 11 _ true) [2,3,4,5,7] ?_); (with_reducible refine aD ?_ ?_ ?_ ?_); (focus kernel_rfl); (focus kernel_rfl); (focus kernel_rfl))
 | ((with_reducible refine aR (c := Code.region 12 _ true) [2,4,5,7] ?_); (with_reducible refine aD ?_ ?_ ?_ ?_); (focus kernel_rfl); (focus kernel_rfl); (focus kernel_rfl))))
 | ((first | (with_reducible refine And.intro ?_ ?_) | (with_reducible refine Need.mk ?_)); focus (first | (intro _; (with_reducible assumption)) | (simp; omega)))
 | (with_reducible refine aA ?_)
 | ((with_reducible show aY _ _ _ _ _ _); first
 | ((with_reducible refine aH ?_ ?_) <;> (intro hc; (try simp only [zB, zC, reduceCtorEq] at hc); (try (exfalso; first | contradiction | omega)))))
 | ((with_reducible refine And.intro ?_ ?_); focus ((with_reducible show fB _ _ _ = true); kernel_rfl))
 | ((with_reducible show bK _ _ _ _ _ _ _ _ _ _); first
 | (refine aQ (k := 168) uK (fun hg => DV f ho) ?_ ?_))
 | ((fail_if_success (with_reducible show AW _ _ _ _)); simp (maxSteps := 2000000) only [go_sem, reduceIte, reduceCtorEq, xA, xL, xD, xE, xM, xS, xB, Tryz.f144])
 | ((with_reducible refine hK _ ?_); clear hK K))
  all_goals first
    | (have e := Di (f := f) (o := o) (by omega); rw [e.1, e.2.1, e.2.2]; repeat' (first | exact rfl | (with_reducible refine And.intro ?_ ?_) | (intro i q hi hq; exact IV.aG _)))
    | (have e0 := jH (f := f) (o := o) (by omega); have e := CB e0.1 (by omega); rw [e0.1, e0.2, e.1, e.2]; repeat' (exact rfl))
    | (have e0 := jH (f := f) (o := o) (by omega); have e := Db e0.1 (by omega); rw [e0.1, e0.2, e.1, e.2]; repeat' (first | exact rfl | (with_reducible refine And.intro ?_ ?_) | (intro i q hi hq; exact IV.aG _)))
    | (have e0 := jH (f := f) (o := o) (by omega); have e := Ct e0.1 (by omega); rw [e0.1, e0.2, e.1, e.2]; repeat' (exact rfl))
    | skip
theorem PE (f : aF) (o : bT) (ho : f.Ok) (ho2 : o.f.Ok) (hk : o.kd = 5) : au Tryz.prog 144 [.agg [.g (.int .i64 (f.id)), .g (.int .i64 (f.kd)), .g (.int .i64 (f.x)), .g (.int .i64 (f.y)), .g (.int .i64 (f.r)), .lst 2 f.n (bX f.P), .g (.int .i64 (f.d)), .g (.int .i64 (f.s)), .lst 6 f.m (bX f.S)], .agg [.g (.int .i64 (o.kd)), .g (.int .i64 (o.id)), .g (.int .i64 (o.f.id)), .g (.int .i64 (o.f.kd)), .g (.int .i64 (o.f.x)), .g (.int .i64 (o.f.y)), .g (.int .i64 (o.f.r)), .lst 2 o.f.n (bX o.f.P), .g (.int .i64 (o.f.d)), .g (.int .i64 (o.f.s)), .lst 6 o.f.m (bX o.f.S), .g (.int .i64 (o.x)), .g (.int .i64 (o.y)), .g (.int .i64 (o.r)), .g (.int .i64 (o.d)), .g (.int .i64 (o.s))]] (.tup [.agg [.g (.int .i64 ((cu f o).id)), .g (.int .i64 ((cu f o).kd)), .g (.int .i64 ((cu f o).x)), .g (.int .i64 ((cu f o).y)), .g (.int .i64 ((cu f o).r)), .lst 2 (cu f o).n (bX (cu f o).P), .g (.int .i64 ((cu f o).d)), .g (.int .i64 ((cu f o).s)), .lst 6 (cu f o).m (bX (cu f o).S)], .agg [.g (.int .i64 ((je f o).kd)), .g (.int .i64 ((je f o).id)), .g (.int .i64 ((je f o).f.id)), .g (.int .i64 ((je f o).f.kd)), .g (.int .i64 ((je f o).f.x)), .g (.int .i64 ((je f o).f.y)), .g (.int .i64 ((je f o).f.r)), .lst 2 (je f o).f.n (bX (je f o).f.P), .g (.int .i64 ((je f o).f.d)), .g (.int .i64 ((je f o).f.s)), .lst 6 (je f o).f.m (bX (je f o).f.S), .g (.int .i64 ((je f o).x)), .g (.int .i64 ((je f o).y)), .g (.int .i64 ((je f o).r)), .g (.int .i64 ((je f o).d)), .g (.int .i64 ((je f o).s))], .one (.g (.int .i64 (dY f o)))]) := by
  refine ah Tryz.func144 rfl (by rw [Tryz.ntmps144]; simp) ?_
  simp only [Tryz.ntmps144, zM, PT.tv, ak, Nat.zero_add, Nat.reduceAdd]
  repeat' (first
 | ((with_reducible show AW _ _ _ _); first
 | (with_reducible first | refine aS (fun K hK => ?_) | refine aT ?_ | refine aC ?_ | refine aB ?_)
 | (first
 | (with_reducible first | refine aP 0 [0,1] ?_ | refine aP 1 [2,3,4,5] ?_ | refine aP 2 [2,3,4,5,7] ?_)
 | ((with_reducible refine aR (c := Code.region 3 _ true) [2,3,4,5,7] ?_); (with_reducible refine aD ?_ ?_ ?_ ?_); (focus kernel_rfl); (focus kernel_rfl); (focus kernel_rfl))
 | (with_reducible first | refine aP 4 [2,3,4,5,7,8] ?_ | refine aP 5 [2,3,4,5,7,8] ?_)
 | (with_reducible refine aP 7 [2,3,4,5,7] ?_)
 | (with_reducible refine aP 10 [2,3,4,5,7] ?_)
 | ((with_reducible refine aR (c := Code.region 12 _ true) [2,4,5,7] ?_); (with_reducible refine aD ?_ ?_ ?_ ?_); (focus kernel_rfl); (focus kernel_rfl); (focus kernel_rfl))))
 | ((first | (with_reducible refine And.intro ?_ ?_) | (with_reducible refine Need.mk ?_)); focus (first | (intro _; (with_reducible assumption)) | (simp; omega)))
 | (with_reducible refine aA ?_)
 | ((with_reducible show aY _ _ _ _ _ _); first
 | ((with_reducible refine aH ?_ ?_) <;> (intro hc; (try simp only [zB, zC, reduceCtorEq] at hc); (try (exfalso; omega)))))
 | ((with_reducible refine And.intro ?_ ?_); focus ((with_reducible show fB _ _ _ = true); kernel_rfl))
 | ((with_reducible show bK _ _ _ _ _ _ _ _ _ _); first
 | (refine aQ (k := 168) uK (fun hg => DV f ho) ?_ ?_))
 | ((fail_if_success (with_reducible show AW _ _ _ _)); simp (maxSteps := 2000000) only [go_sem, reduceIte, reduceCtorEq, xA, xL, xD, xE, xM, xS, xB, Tryz.f144])
 | ((with_reducible refine hK _ ?_); clear hK K))
  all_goals first
    | (have e := Di (f := f) (o := o) (by omega); rw [e.1, e.2.1, e.2.2]; repeat' (exact rfl))
    | (have e0 := jH (f := f) (o := o) (by omega); have e := CB e0.1 (by omega); rw [e0.1, e0.2, e.1, e.2]; repeat' (exact rfl))
    | (have e0 := jH (f := f) (o := o) (by omega); have e := Db e0.1 (by omega); rw [e0.1, e0.2, e.1, e.2]; repeat' (exact rfl))
    | (have e0 := jH (f := f) (o := o) (by omega); have e := Ct e0.1 (by omega); rw [e0.1, e0.2, e.1, e.2]; repeat' (first | exact rfl | (with_reducible refine And.intro ?_ ?_) | (intro i q hi hq; exact IV.aG _)))
    | skip
theorem ah6 (o : bT) (ho : o.f.Ok) : au Tryz.prog 98 [.agg [.g (.int .i64 (o.kd)), .g (.int .i64 (o.id)), .g (.int .i64 (o.f.id)), .g (.int .i64 (o.f.kd)), .g (.int .i64 (o.f.x)), .g (.int .i64 (o.f.y)), .g (.int .i64 (o.f.r)), .lst 2 o.f.n (bX o.f.P), .g (.int .i64 (o.f.d)), .g (.int .i64 (o.f.s)), .lst 6 o.f.m (bX o.f.S), .g (.int .i64 (o.x)), .g (.int .i64 (o.y)), .g (.int .i64 (o.r)), .g (.int .i64 (o.d)), .g (.int .i64 (o.s))]] (.t (.one (.g (.bool (oQ o))))) := by
  refine ah Tryz.func98 rfl (by rw [Tryz.ntmps98]; simp) ?_
  simp only [Tryz.ntmps98, zM, PT.tv, ak, Nat.zero_add, Nat.reduceAdd]
  repeat' (first
 | ((with_reducible show AW _ _ _ _); first
 | (with_reducible first | refine aS (fun K hK => ?_) | refine aT ?_)
 | (first
 | (with_reducible first | refine aP 0 [0] ?_ | refine aP 1 [1] ?_)))
 | (((with_reducible refine Need.mk ?_)); focus (exact True.intro))
 | (with_reducible refine aA ?_)
 | ((with_reducible show aN _ _ _ _ _ _ _ _ _ _); first
 | (refine aj (k := 126) IK (ajB _ ho) ?_ ?_))
 | ((fail_if_success (with_reducible show AW _ _ _ _)); simp (maxSteps := 2000000) only [go_sem, reduceIte, reduceCtorEq, xA, xL, xD, xE, xM, xS, xB, Tryz.f98])
 | ((with_reducible refine hK _ ?_); clear hK K))
theorem adq (o : bT) (ho : o.f.Ok) : au Tryz.prog 116 [.agg [.g (.int .i64 (o.kd)), .g (.int .i64 (o.id)), .g (.int .i64 (o.f.id)), .g (.int .i64 (o.f.kd)), .g (.int .i64 (o.f.x)), .g (.int .i64 (o.f.y)), .g (.int .i64 (o.f.r)), .lst 2 o.f.n (bX o.f.P), .g (.int .i64 (o.f.d)), .g (.int .i64 (o.f.s)), .lst 6 o.f.m (bX o.f.S), .g (.int .i64 (o.x)), .g (.int .i64 (o.y)), .g (.int .i64 (o.r)), .g (.int .i64 (o.d)), .g (.int .i64 (o.s))]] (.t (.one (.g (.bool (!oQ o))))) := by
  refine ah Tryz.func116 rfl (by rw [Tryz.ntmps116]; simp) ?_
  simp only [Tryz.ntmps116, zM, PT.tv, ak, Nat.zero_add, Nat.reduceAdd]
  repeat' (first
 | ((with_reducible show AW _ _ _ _); first
 | (with_reducible first | refine aS (fun K hK => ?_) | refine aT ?_)
 | (first
 | (with_reducible first | refine aP 0 [0] ?_ | refine aP 1 [1] ?_)))
 | (((with_reducible refine Need.mk ?_)); focus (exact True.intro))
 | (with_reducible refine aA ?_)
 | ((with_reducible show aN _ _ _ _ _ _ _ _ _ _); first
 | (refine aj (k := 98) Dn (ah6 _ ho) ?_ ?_))
 | ((fail_if_success (with_reducible show AW _ _ _ _)); simp (maxSteps := 2000000) only [go_sem, reduceIte, reduceCtorEq, xA, xL, xD, xE, xM, xS, xB, Tryz.f116])
 | ((with_reducible refine hK _ ?_); clear hK K))
theorem Cv {P : Program} {gs : List (Option Nat)} {d : Option Tmp} {op : UnOp} {t : TypeId} {x : Operand} {ty : TypeId} {pos : String} {aft : Array Edge} {g : Option (Nat × Bool)} {os : List Oper} {s : AS} {K : AS -> Prop} (h : eD P gs os (s.put d .any) K) :
    iT P gs false ⟨d, .unOp op t x, ty, pos, aft, g⟩ os s K := by
  refine Or.inr ?_
  exact ⟨fun h => (by cases h), fun _ => h⟩
theorem Rc (k : Nat) (o : Nat -> bT) (hk : k <= 9223372036854775807) (ho : ∀ i, i < k -> (o i).f.Ok) (hd : decide ((k : Int) <= 100) = true) : au Tryz.prog 90 [.one (.lst 16 k (fu o))] (.t (.one (.g (.bool (fO k o))))) := by
  have hd2 : k <= 100 := (by have := of_decide_eq_true hd; omega)
  refine ah Tryz.func90 rfl (by rw [Tryz.ntmps90]; simp) ?_
  simp only [Tryz.ntmps90, zM, PT.tv, ak, Nat.zero_add, Nat.reduceAdd]
  repeat' (first
 | ((with_reducible show AW _ _ _ _); first
 | (with_reducible first | refine aS (fun K hK => ?_) | refine aI ?_ | refine aX ?_ | refine aT ?_ | refine aC ?_ | refine aB ?_)
 | (first
 | (with_reducible first | refine aP 0 [0,1] ?_ | refine aP (ops := #[⟨some 3, _, _, _, _, _⟩, _, _, _, _, _, _, _, _]) 1 [0] ?_ | refine aP (ops := #[⟨some 5, _, _, _, _, _⟩, _, _, _, _]) 1 [0,1] ?_ | refine aP (ops := #[⟨some 6, _, _, _, _, _⟩, _, _]) 1 [0,1] ?_ | refine aP 2 [0,1,7,8] ?_ | refine aP 3 [0,1,7,8] ?_ | refine aP 4 [0,1,5,7,8] ?_ | refine aP 5 [5] ?_ | refine aP 6 [0,1,7,8] ?_ | refine aP 7 [] ?_))
 | ((with_reducible show AW _ (Code.loop _) _ _); first
 | ((with_reducible refine aL (c := (Code.seq (Code.region 2 _ _) _)) (ι := Nat) [0,1,7] (fun j => [(8, iA .i64 (j : Int))]) (fun j => []) (fun j => j <= k /\ (∀ j', j' < j -> oQ (o j') = true)) (fun j => k - j) 0 ?lg2 ?l12 ?l22 ?li2 ?lr2); (case' lg2 => rintro j _); (case' li2 => try (exact ⟨Nat.zero_le _, fun i hi => absurd hi (Nat.not_lt_zero _)⟩)); (case' lr2 => rintro j ⟨hj, haj⟩ KR hR2; simp only [bf, bN, hset, lk, if_true, if_false, xE, reduceIte, zN, hd]))))
 | ((first | (with_reducible refine And.intro ?_ ?_) | (with_reducible refine Need.mk ?_)); focus (first | exact True.intro | omega))
 | (with_reducible refine aA ?_)
 | ((with_reducible show aY _ _ _ _ _ _); first
 | ((with_reducible refine aH ?_ ?_) <;> (intro hc; (try simp only [zB, zC, reduceCtorEq] at hc); (try (exfalso; contradiction)))))
 | ((with_reducible show aN _ _ _ _ _ _ _ _ _ _); first
 | (refine aj (k := 116) SV (adq _ (ho _ (by omega))) ?_ ?_)
 | ((refine bY (k := 96) Tryz.func96 rfl EA (by rw [Tryz.ntmps96]; simp) ?_ ?_ (fun K hK => ?_)); (focus (exact True.intro)); (focus ((simp [iM]; done))); simp only [Tryz.ntmps96, List.map_cons, List.map_nil, List.nil_append, List.cons_append, List.append_nil, LV.tv, ak, Nat.zero_add, Nat.reduceAdd])
 | ((refine bY (k := 101) Tryz.func101 rfl uS (by rw [Tryz.ntmps101]; simp) ?_ ?_ (fun K hK => ?_)); (focus (exact True.intro)); (focus ((simp [iM]; done))); simp only [Tryz.ntmps101, List.map_cons, List.map_nil, List.nil_append, List.cons_append, List.append_nil, LV.tv, ak, Nat.zero_add, Nat.reduceAdd]))
 | ((with_reducible show bK _ _ _ _ _ _ _ _ _ _); ((refine eO (k := 96) ?_ ?_) <;> (intro hc; (try simp only [zB, zC, reduceCtorEq] at hc); (try (exfalso; contradiction)))))
 | ((with_reducible refine hR2 _ (j + 1) ?_); (try clear hR2 KR))
 | ((with_reducible refine Told.mk ?_); simp only [go_sem, reduceIte, reduceCtorEq, xA, xL, xD, xE, xM, xS, xB, hd] <;> ((((try simp (disch := omega) only [aJ, Int.natCast_add, Int.cast_ofNat_Int, and_true, true_and, and_self]); (repeat' (first | omega | (with_reducible refine And.intro ?_ ?_) | (exact all_succ (by assumption) (by assumption)) )); done))))
 | ((fail_if_success (with_reducible show AW _ _ _ _)); simp (maxSteps := 2000000) only [go_sem, reduceIte, reduceCtorEq, xA, xL, xD, xE, xM, xS, xB, Tryz.f90, Tryz.f96, Tryz.f101, hd])
 | ((with_reducible refine hK _ ?_); clear hK K)
 | (with_reducible apply_assumption -exfalso only [*]))
  all_goals first
    | (refine Eq.trans ?_ (decide_eq_false (fun g => by have := g.2 j (by omega); simp_all)).symm; have h0 : (j : Int) >= 0 := (by omega); simp [h0]; done)
    | (refine Eq.trans ?_ (decide_eq_true ⟨hd2, fun i hi => haj i (by omega)⟩).symm; simp; done)
    | skip
theorem Ub (k : Nat) (o : Nat -> bT) (hk : k <= 9223372036854775807) (ho : ∀ i, i < k -> (o i).f.Ok) (hd : decide ((k : Int) <= 100) = false) : au Tryz.prog 90 [.one (.lst 16 k (fu o))] (.t (.one (.g (.bool (fO k o))))) := by
  refine ah Tryz.func90 rfl (by rw [Tryz.ntmps90]; simp) ?_
  simp only [Tryz.ntmps90, zM, PT.tv, ak, Nat.zero_add, Nat.reduceAdd]
  repeat' (first
 | (refine Cv ?_)
 | ((with_reducible show AW _ _ _ _); first
 | (with_reducible first | refine aS (fun K hK => ?_) | refine aT ?_)
 | (first
 | (with_reducible first | refine aP 0 [0] ?_ | refine aP 1 [0] ?_)))
 | (with_reducible refine aA ?_)
 | ((with_reducible show bK _ _ _ _ _ _ _ _ _ _); first
 | ((refine eO (k := 96) ?_ ?_) <;> (intro hc; (try simp only [zB, zC, reduceCtorEq] at hc); (try (exfalso; contradiction)))))
 | ((fail_if_success (with_reducible show AW _ _ _ _)); simp (maxSteps := 2000000) only [go_sem, reduceIte, reduceCtorEq, xA, xL, xD, xE, xM, xS, xB, Tryz.f90, hd])
 | ((with_reducible refine hK _ ?_); clear hK K))
  all_goals first | exact (decide_eq_false fun g => by have := of_decide_eq_false hd; omega).symm | skip
theorem jV (k : Nat) (o : Nat -> bT) (hk : k <= 9223372036854775807) (ho : ∀ i, i < k -> (o i).f.Ok) : au Tryz.prog 90 [.one (.lst 16 k (fu o))] (.t (.one (.g (.bool (fO k o))))) := by
  cases hd : decide ((k : Int) <= 100) with
  | true => exact Rc k o hk ho hd
  | false => exact Ub k o hk ho hd
end Go.Proofs.YtmnejmpjmniiiaaGreatDoor
namespace Go.Proofs
open Go.Shelf
def Tryz.F3 : Go.Shelf.Ren := ⟨fun | 189 => 121 | 125 => 147 | 257 => 146 | 128 => 178 | 129 => 179 | 294 => 169 | 295 => 170 | 296 => 171 | 297 => 172 | 298 => 173 | 299 => 174 | 216 => 175 | 300 => 176 | 301 => 177 | 328 => 195 | 329 => 196 | 330 => 197 | 331 => 198 | 332 => 199 | 215 => 114 | 343 => 209 | n => n, fun | 28 => 27 | 3 => 3 | 46 => 88 | 0 => 0 | 51 => 153 | 53 => 155 | 4 => 4 | 183 => 192 | 182 => 191 | 131 => 130 | 5 => 5 | 9 => 9 | 218 => 208 | 222 => 212 | 228 => 216 | 229 => 217 | n => n, fun | n => n⟩
theorem Tryz.Ow : Go.Proofs.Lays.n189 Tryz.prog Tryz.F3 := {
  mixed := by kernel_rfl
  f125 := Tryz.func147.trans (congrArg some (by kernel_rfl))
  f128 := Tryz.func178.trans (congrArg some (by kernel_rfl))
  f129 := Tryz.func179.trans (congrArg some (by kernel_rfl))
  f189 := Tryz.func121.trans (congrArg some (by kernel_rfl))
  f215 := Tryz.func114.trans (congrArg some (by kernel_rfl))
  f216 := Tryz.func175.trans (congrArg some (by kernel_rfl))
  f257 := Tryz.func146.trans (congrArg some (by kernel_rfl))
  f294 := Tryz.func169.trans (congrArg some (by kernel_rfl))
  f295 := Tryz.func170.trans (congrArg some (by kernel_rfl))
  f296 := Tryz.func171.trans (congrArg some (by kernel_rfl))
  f297 := Tryz.func172.trans (congrArg some (by kernel_rfl))
  f298 := Tryz.func173.trans (congrArg some (by kernel_rfl))
  f299 := Tryz.func174.trans (congrArg some (by kernel_rfl))
  f300 := Tryz.func176.trans (congrArg some (by kernel_rfl))
  f301 := Tryz.func177.trans (congrArg some (by kernel_rfl))
  f328 := Tryz.func195.trans (congrArg some (by kernel_rfl))
  f329 := Tryz.func196.trans (congrArg some (by kernel_rfl))
  f330 := Tryz.func197.trans (congrArg some (by kernel_rfl))
  f331 := Tryz.func198.trans (congrArg some (by kernel_rfl))
  f332 := Tryz.func199.trans (congrArg some (by kernel_rfl))
  f343 := Tryz.func209.trans (congrArg some (by kernel_rfl))
  t0 := Tryz.underlying0
  a0 := Tryz.isAgg0
  z0 := Tryz.sizeOf0
  v0 := Tryz.zeroValue0
  t3 := Tryz.underlying3
  a3 := Tryz.isAgg3
  z3 := Tryz.sizeOf3
  v3 := Tryz.zeroValue3
  t4 := Tryz.underlying4
  a4 := Tryz.isAgg4
  z4 := Tryz.sizeOf4
  v4 := Tryz.zeroValue4
  t5 := Tryz.underlying5
  a5 := Tryz.isAgg5
  z5 := Tryz.sizeOf5
  v5 := Tryz.zeroValue5
  t9 := Tryz.underlying9
  a9 := Tryz.isAgg9
  z9 := Tryz.sizeOf9
  v9 := Tryz.zeroValue9
  t28 := Tryz.underlying27
  a28 := Tryz.isAgg27
  z28 := Tryz.sizeOf27
  v28 := Tryz.zeroValue27
  t46 := Tryz.underlying88
  a46 := Tryz.isAgg88
  z46 := Tryz.sizeOf88
  v46 := Tryz.zeroValue88
  t51 := Tryz.underlying153
  a51 := Tryz.isAgg153
  z51 := Tryz.sizeOf153
  v51 := Tryz.zeroValue153
  t53 := Tryz.underlying155
  a53 := Tryz.isAgg155
  z53 := Tryz.sizeOf155
  v53 := Tryz.zeroValue155
  t131 := Tryz.underlying130
  a131 := Tryz.isAgg130
  z131 := Tryz.sizeOf130
  v131 := Tryz.zeroValue130
  t182 := Tryz.underlying191
  a182 := Tryz.isAgg191
  z182 := Tryz.sizeOf191
  v182 := Tryz.zeroValue191
  t183 := Tryz.underlying192
  a183 := Tryz.isAgg192
  z183 := Tryz.sizeOf192
  v183 := Tryz.zeroValue192
  t218 := Tryz.underlying208
  a218 := Tryz.isAgg208
  z218 := Tryz.sizeOf208
  v218 := Tryz.zeroValue208
  t222 := Tryz.underlying212
  a222 := Tryz.isAgg212
  z222 := Tryz.sizeOf212
  v222 := Tryz.zeroValue212
  t228 := Tryz.underlying216
  a228 := Tryz.isAgg216
  z228 := Tryz.sizeOf216
  v228 := Tryz.zeroValue216
  t229 := Tryz.underlying217
  a229 := Tryz.isAgg217
  z229 := Tryz.sizeOf217
  v229 := Tryz.zeroValue217 }
open Go.Sort Go.RowKit in
theorem Tryz.slices_Sort_int (blk off cap : Nat) (zs : List Int) (w : World) (hH : Holds (Value.int .i64) w blk off zs.toArray) (hblk : blk < w.heap.size) (hsz : zs.length < 4611686018427387904) :
    Calls Tryz.prog 121 #[.slice (some ⟨blk, off, none⟩) zs.length cap] w fun e w' =>
      e = .returned (.tuple #[]) /\ ∃ n os, w' = grow (putRow (Value.int .i64) (Sort.ahead w n) blk off (zs.mergeSort fun x y => decide (x <= y)).toArray) os := Any.slices_Sort_int Tryz.Ow blk off cap zs w hH hblk hsz
open Go.RowKit Go.Sort in
theorem Tryz.slices_Sort_int_none (p : Option Addr) (cap : Nat) (w : World) :
    Calls Tryz.prog 121 #[.slice p 0 cap] w fun e w' => e = .returned (.tuple #[]) /\ w' = w := Any.slices_Sort_int_none Tryz.Ow p cap w
end Go.Proofs
namespace Go.Proofs.YtmnejmpjmniiiaaGreatDoor
open Go.RowKit Go.Sea Go.Sort
def dL (zs : List Int) : List CV := zs.map fun z => .iv (.g (.int .i64 z))
theorem aW (zs : List Int) : (dL zs).length = zs.length := by simp [dL]
theorem bU (zs : List Int) : ∀ c, c ∈ dL zs -> kg c := by
  intro c hc
  simp only [dL, List.mem_map] at hc
  obtain ⟨z, _, rfl⟩ := hc
  trivial
theorem uG (zs : List Int) (k : Nat) (h : k < zs.length) : (dL zs).getD k .any = .iv (.g (.int .i64 (zs.getD k 0))) := by
  simp [dL, List.getD, h]
section
variable {w0 : World} {Z0 : Fr} {J : Nat -> Option Nat} {Z : Nat -> Prop} {s : AS} {a : Act} {w : World}
theorem CG (R : Rel w0 Z0 J Z s a w) : ∀ n, Rel w0 Z0 J Z s a (Go.Sort.ahead w n)
  | 0 => R
  | n + 1 => by
    have := (CG R n).drew
    exact this
theorem below_grow (w : World) (os : Array Obj) : Below w.heap.size w (grow w os) := by
  refine ⟨rfl, rfl, rfl, by simp [grow], fun k hk => ?_⟩
  simp only [grow]
  rw [Array.getElem?_append_left hk]
theorem Uh (R : Rel w0 Z0 J Z s a w) {i b : Nat} {zs : List Int} {c : Array Value} {e : TypeId} (hj : J i = some b) (hb : w.heap[b]? = some (.cells c e (0, 0))) (hz : zs ≠ []) (h : hget s.heap i = some (dL zs)) :
    zs.length <= c.size /\ ∀ j, j < zs.length -> c[j]? = some (.int .i64 (zs.getD j 0)) := by
  obtain ⟨c1, e1, g2, g3⟩ := R.cells h (by cases zs <;> simp_all [dL]) hj ⟨_, _, hb⟩
  rw [hb] at g2; cases g2
  have hl := g3.length
  have hl' : zs.length <= c.size := by
    simp only [List.length_take, aW, Array.length_toList] at hl
    omega
  refine ⟨hl', fun j hjz => ?_⟩
  obtain ⟨u, hu, hr⟩ := g3.get (k := j) (y := .iv (.g (.int .i64 (zs.getD j 0)))) (by simp [dL, List.getD, hjz])
  rw [List.getElem?_take, if_pos (by rw [aW]; exact hjz), Array.getElem?_toList] at hu
  rw [hu]; cases hr; rfl
theorem row_holds {b : Nat} {zs : List Int} {c : Array Value} {e : TypeId} (hb : w.heap[b]? = some (.cells c e (0, 0))) (h : ∀ j, j < zs.length -> c[j]? = some (.int .i64 (zs.getD j 0))) : Holds (Value.int .i64) w b 0 zs.toArray := by
  intro j hj
  have hj' : j < zs.length := by simpa using hj
  refine ⟨?_, ?_⟩
  · rw [cell_of_row w b _ c e _ hb, Nat.zero_add, h j hj']
    simp [List.getD, hj']
  · simp [World.frozen?, hb]
theorem X3 (R : Rel w0 Z0 J Z s a w) {i b : Nat} {zs ys : List Int} {c : Array Value} {e : TypeId} (hj : J i = some b) (hb : w.heap[b]? = some (.cells c e (0, 0))) (h : hget s.heap i = some (dL zs)) (hl : ys.length = zs.length) (hc : zs.length <= c.size) :
    Rel w0 Z0 J Z { s with heap := hset s.heap i (dL ys) } a (putRow (Value.int .i64) w b 0 ys.toArray) := by
  have hrow := setRow_heap w b c (putCells (Value.int .i64) 0 ys.toArray c) e (0, 0) hb
  have ew : putRow (Value.int .i64) w b 0 ys.toArray = w.setRow b (putCells (Value.int .i64) 0 ys.toArray c) := by
    unfold putRow mapBlock World.setRow
    congr 1
    apply Array.ext_getElem?
    intro k
    simp only [Array.getElem?_modify]
    by_cases hk : b = k
    · subst hk
      simp only [if_true]
      rw [hb]; rfl
    · simp [hk]
  rw [ew]
  refine R.set h hj hb (by simp [putCells]) (bn _ _ _) (fun k hk => bE _ _ _ _ hk) ?_
  refine aU.of (by simp [putCells, aW]; omega) fun k u y hu hy => ?_
  have hk : k < ys.length := by
    rw [List.getElem?_take] at hu
    split at hu
    · rename_i h; rwa [aW] at h
    · cases hu
  rw [List.getElem?_take, if_pos (by rw [aW]; exact hk), Array.getElem?_toList] at hu
  simp only [putCells, Array.getElem?_mapIdx] at hu
  rw [Array.getElem?_eq_getElem (by omega)] at hu
  simp [hk] at hu
  simp [dL, hk] at hy
  subst hu; subst hy
  exact Rd.g _ rfl
end
theorem Sd (zs : List Int) : (zs.mergeSort fun x y => decide (x <= y)).length = zs.length := by simp
theorem aaW (zs : List Int) (hz : zs.length < 4611686018427387904) (i : Nat) : Em Tryz.prog 121 [.one (.slc i 0 zs.length 1)] i (dL zs) (.tup []) (dL (zs.mergeSort fun x y => decide (x <= y))) := by
  intro H hH w0 Z0 J Z s a w vs R hs hv
  subst hs
  obtain ⟨vs⟩ := vs
  match vs, hv with
  | [v], ⟨hv, _⟩ =>
    by_cases h0 : zs = []
    · subst h0
      have ev : ∃ p cap, v = .slice p 0 cap := by
        rcases hv with ⟨_, rfl⟩ | ⟨b, cap, c, e, rfl, _⟩ <;> exact ⟨_, _, rfl⟩
      obtain ⟨p, cap, rfl⟩ := ev
      refine (Tryz.slices_Sort_int_none p cap w).mono fun e w' ⟨he, hw⟩ => ?_
      subst hw
      refine ⟨_, J, Z, he, ?_, #[], rfl, trivial⟩
      have e1 : dL (([] : List Int).mergeSort fun x y => decide (x <= y)) = dL [] := by simp [dL]
      rw [e1]
      exact R.same fun k => by
        by_cases hk : k = i
        · subst hk; rw [bn]; exact hH.symm
        · exact bE _ _ _ _ hk
    · rcases hv with ⟨h, _⟩ | ⟨b, cap, c, e, rfl, hj, hc1, hc2, hb, hsz⟩
      · exact absurd (List.eq_nil_of_length_eq_zero h) h0
      · obtain ⟨k1, k2⟩ := Uh R hj hb h0 hH
        refine (Tryz.slices_Sort_int b 0 cap zs w (row_holds hb k2) (R.jlt i b hj).2.1 hz).mono fun e' w' ⟨he, n, os, hw⟩ => ?_
        subst hw
        have R1 := X3 (CG R n) (ys := zs.mergeSort fun x y => decide (x <= y)) hj hb hH (Sd zs) k1
        exact ⟨_, J, _, he, (R1.call (below_grow _ os)).1, #[], rfl, trivial⟩
end Go.Proofs.YtmnejmpjmniiiaaGreatDoor
