/- Tide: Height. -/
import Derived.Test.YtmljnelmnagfoaaH
import Derived.RangeFuncBound
import Derived.RangeFuncCalls
import Derived.RangeFuncLeaves
import Derived.Shelf.Abstract
import Derived.Shelf.RegionOpen
import Derived.TacticsInMore
import Derived.LoopNIn
import Derived.LoopIn
set_option linter.unusedVariables false
set_option linter.unusedSimpArgs false
namespace Go.Proofs.Ytmljnelmnagfoaa
open Go.RowKit Go.Shelf
attribute [local go_sem] Oper.semAt_some World.cell?_alloc_some frozen_alloc_some isSome_alloc isSome_setCell

def hitS (f u : Int) (x : Q4) : Bool := decide (f ≤ x.2.1) && decide (x.1 ≤ u)
def accS (f u : Int) (o : Option (Int × Int)) (x : Q4) : Option (Int × Int) := bif hitS f u x then some (match o with | none => (x.2.2.1, x.2.2.2) | some a => (min a.1 x.2.2.1, max a.2 x.2.2.2)) else o
def fo (f u : Int) (l : List Q4) : Option (Int × Int) := l.foldl (accS f u) none
def oL (o : Option (Int × Int)) : Int := match o with | none => 0 | some a => a.1
def oH (o : Option (Int × Int)) : Int := match o with | none => 0 | some a => a.2
theorem fo_snoc (f u : Int) (l : List Q4) (x : Q4) : fo f u (l ++ [x]) = accS f u (fo f u l) x := by simp [fo]
theorem accS_m1 {f u xa xc xl xh : Int} {o : Option (Int × Int)} (h : xc < f) : accS f u o (xa, xc, xl, xh) = o := by
  have e : hitS f u (xa, xc, xl, xh) = false := by simp only [hitS, Bool.and_eq_false_iff, decide_eq_false_iff_not]; omega
  unfold accS; rw [e]; rfl
theorem accS_m2 {f u xa xc xl xh : Int} {o : Option (Int × Int)} (h : u < xa) : accS f u o (xa, xc, xl, xh) = o := by
  have e : hitS f u (xa, xc, xl, xh) = false := by simp only [hitS, Bool.and_eq_false_iff, decide_eq_false_iff_not]; omega
  unfold accS; rw [e]; rfl
theorem accS_n {f u xa xc xl xh : Int} (h : ¬ xc < f) (h2 : ¬ u < xa) : accS f u none (xa, xc, xl, xh) = some (xl, xh) := by
  have e : hitS f u (xa, xc, xl, xh) = true := by simp only [hitS, Bool.and_eq_true, decide_eq_true_eq]; omega
  unfold accS; rw [e]; rfl
theorem accS_s {f u xa xc xl xh a1 a2 : Int} (h : ¬ xc < f) (h2 : ¬ u < xa) : accS f u (some (a1, a2)) (xa, xc, xl, xh) = some (min a1 xl, max a2 xh) := by
  have e : hitS f u (xa, xc, xl, xh) = true := by simp only [hitS, Bool.and_eq_true, decide_eq_true_eq]; omega
  unfold accS; rw [e]; rfl
theorem ownPost_at {α : Type} {B : Nat} {Kp : World → World → Prop} {I : List α → World → Prop} {Ix : Code → List α → World → Prop} {xs : List α} {W : World} : ownPostG B Kp I Ix xs W = ownPostG B Kp (fun _ => I xs) Ix xs W := by
  funext e a W'; cases e <;> rfl
def okO (o : Option (Int × Int)) : Prop := match o with | none => True | some a => -100000 ≤ a.1 ∧ a.1 ≤ a.2 ∧ a.2 ≤ 100000

set_option maxRecDepth 100000 in
set_option maxHeartbeats 8000000 in
theorem height_ok (s st : Int) (p : Option Addr) (n c : Nat) (lo hi : Nat → Int) (f u : Int) (w : World) (hL : Lie w p n lo hi) (hp : ∀ a, p = some a → a.block < w.heap.size) (ht : tval s st n lo hi = true) (hf : tm f = true) (hu : tm u = true) (h1 : ¬ u < f) (h2 : ¬ f < s) (h3 : ¬ s + ((n : Int) - 1) * st < u) :
    Calls Try.prog 15 #[tv s st p n c, .int .i64 f, .int .i64 u] w fun e w' => e = .returned (se (oL (fo f u (strs s st lo hi n))) (oH (fo f u (strs s st lo hi n))) 0) ∧ Below w.heap.size w w' := by
  have hv := tval_tv ht
  obtain ⟨f0, f1⟩ := tm_bd hf
  obtain ⟨u0, u1⟩ := tm_bd hu
  obtain ⟨p0, p1⟩ := prod_bd hv.n0 hv.n1 hv.st0 hv.st1
  refine (callsIn_wide (n := 2)).1 ?_
  refine callsIn_of_wp_marks Try.func15 rfl trivial ?_ rfl
  simp only [Try.ntmps15, List.size_toArray, List.length_cons, List.length_nil, Nat.reduceAdd, Nat.reduceSub, Array.replicate_succ, Array.replicate_zero, List.push_toArray, List.append_toArray, List.nil_append, List.cons_append]
  refine wpIn_wide.2 ?_
  go_wp2_with (first | (go_at_call 24; refine (valid_any s st p n c lo hi _ (hL.keep (by (repeat' (first | (with_reducible assumption) | (with_reducible exact Below.refl _ _) | (with_reducible exact Cels.nil _) | (with_reducible refine Cels.cons ?_ ?_) | (with_reducible refine Own.mk ?_ ?_ ?_ ?_) | ((with_reducible refine Cel.new ?_ rfl); first | (with_reducible rfl) | omega | (simp; done) | (simp; omega)) | (with_reducible refine Cel.alloc ?_ _) | (with_reducible refine Cel.drew ?_) | (with_reducible refine Cel.setS ?_ _) | (with_reducible refine Has.set ?_ _ _) | (with_reducible exact Has.of (by assumption)) | (with_reducible refine Cel.setO ?_ ?_ _) | (with_reducible refine Cel.keep (by assumption) ?_) | (with_reducible refine Below.alloc ?_ ?_ _) | (with_reducible refine Below.drew ?_) | (with_reducible refine Below.setCell ?_ ?_ _) | (with_reducible refine below_keep ?_ ?_ (by assumption)) | omega | (simp; done) | (simp; omega)))))).mono ?_; rintro e w' ⟨rfl, hb⟩; have hs := hb.size; (try simp at hs); have O : Own w (w.heap.size + 4) w' [(w.heap.size, 0, .int .i64 s), (w.heap.size, 1, .int .i64 st), (w.heap.size, 2, .slice p n c), (w.heap.size + 1, 0, .int .i64 f), (w.heap.size + 1 + 1, 0, .int .i64 u), (w.heap.size + 1 + 1 + 1, 0, .int .i64 0), (w.heap.size + 1 + 1 + 1, 1, .int .i64 0)] := (by first | exact Own.keep (by assumption) hb | (repeat' (first | (with_reducible assumption) | (with_reducible exact Below.refl _ _) | (with_reducible exact Cels.nil _) | (with_reducible refine Cels.cons ?_ ?_) | (with_reducible refine Own.mk ?_ ?_ ?_ ?_) | ((with_reducible refine Cel.new ?_ rfl); first | (with_reducible rfl) | omega | (simp; done) | (simp; omega)) | (with_reducible refine Cel.alloc ?_ _) | (with_reducible refine Cel.drew ?_) | (with_reducible refine Cel.setS ?_ _) | (with_reducible refine Has.set ?_ _ _) | (with_reducible exact Has.of (by assumption)) | (with_reducible refine Cel.setO ?_ ?_ _) | (with_reducible refine Cel.keep (by assumption) ?_) | (with_reducible refine Below.alloc ?_ ?_ _) | (with_reducible refine Below.drew ?_) | (with_reducible refine Below.setCell ?_ ?_ _) | (with_reducible refine below_keep ?_ ?_ (by assumption)) | omega | (simp; done) | (simp; omega)))); have hB := O.below; have hz := O.size; have S0 : Cel w' (w.heap.size) 0 (.int .i64 s) := O.cels.1; have S1 : Cel w' (w.heap.size) 1 (.int .i64 st) := O.cels.2.1; have S2 : Cel w' (w.heap.size) 2 (.slice p n c) := O.cels.2.2.1; have S3 : Cel w' (w.heap.size + 1) 0 (.int .i64 f) := O.cels.2.2.2.1; have S4 : Cel w' (w.heap.size + 1 + 1) 0 (.int .i64 u) := O.cels.2.2.2.2.1; have S5 : Cel w' (w.heap.size + 1 + 1 + 1) 0 (.int .i64 0) := O.cels.2.2.2.2.2.1; have S6 : Cel w' (w.heap.size + 1 + 1 + 1) 1 (.int .i64 0) := O.cels.2.2.2.2.2.2.1) | (go_at_call 38; refine (isTime_any _ _).mono ?_; rintro e w' ⟨rfl, rfl⟩))
  refine wp_region_by (fun a0 L a' w' => a' = pcs a0 [(30, L 0, .int .i64 f), (31, L 1, .pointer (some ⟨w.heap.size, 0, none⟩)), (32, L 2, .int .i64 s), (33, L 3, .bool false), (34, L 4, .bool false), (35, L 5, .int .i64 u), (36, L 6, tv s st p n c), (37, L 7, .int .i64 (s + ((n : Int) - 1) * st)), (38, L 8, .bool false), (39, L 9, .bool false)] ∧ Own w (w.heap.size + 4) w' [(w.heap.size, 0, .int .i64 s), (w.heap.size, 1, .int .i64 st), (w.heap.size, 2, .slice p n c), (w.heap.size + 1, 0, .int .i64 f), (w.heap.size + 1 + 1, 0, .int .i64 u), (w.heap.size + 1 + 1 + 1, 0, .int .i64 0), (w.heap.size + 1 + 1 + 1, 1, .int .i64 0)]) (by kernel_rfl) (by kernel_rfl) ?_ ?_ ?_
  · exact ⟨(pcs_start _ _ (by simp)).symm, by (repeat' (first | (with_reducible assumption) | (with_reducible exact Below.refl _ _) | (with_reducible exact Cels.nil _) | (with_reducible refine Cels.cons ?_ ?_) | (with_reducible refine Own.mk ?_ ?_ ?_ ?_) | ((with_reducible refine Cel.new ?_ rfl); first | (with_reducible rfl) | omega | (simp; done) | (simp; omega)) | (with_reducible refine Cel.alloc ?_ _) | (with_reducible refine Cel.drew ?_) | (with_reducible refine Cel.setS ?_ _) | (with_reducible refine Has.set ?_ _ _) | (with_reducible exact Has.of (by assumption)) | (with_reducible refine Cel.setO ?_ ?_ _) | (with_reducible refine Cel.keep (by assumption) ?_) | (with_reducible refine Below.alloc ?_ ?_ _) | (with_reducible refine Below.drew ?_) | (with_reducible refine Below.setCell ?_ ?_ _) | (with_reducible refine below_keep ?_ ?_ (by assumption)) | omega | (simp; done) | (simp; omega)))⟩
  · refine ⟨?_, ?_, ?_, ?_, ?_, ?_, ?_, ?_, ?_, ?_, trivial⟩
    · rintro L a' v ⟨rfl, O⟩ hL hd hcl K hK
      have HK := Lib.hid hK
      clear hK
      have hB := O.below; have hz := O.size; have S0 : Cel v (w.heap.size) 0 (.int .i64 s) := O.cels.1; have S1 : Cel v (w.heap.size) 1 (.int .i64 st) := O.cels.2.1; have S2 : Cel v (w.heap.size) 2 (.slice p n c) := O.cels.2.2.1; have S3 : Cel v (w.heap.size + 1) 0 (.int .i64 f) := O.cels.2.2.2.1; have S4 : Cel v (w.heap.size + 1 + 1) 0 (.int .i64 u) := O.cels.2.2.2.2.1; have S5 : Cel v (w.heap.size + 1 + 1 + 1) 0 (.int .i64 0) := O.cels.2.2.2.2.2.1; have S6 : Cel v (w.heap.size + 1 + 1 + 1) 1 (.int .i64 0) := O.cels.2.2.2.2.2.2.1
      simp [Region.binds] at hd
      simp only [pcs, List.foldl_cons, List.foldl_nil, Act.put]
      go_simp
      exact HK.out _ _ ⟨by simp [pcs, Act.put, upd, gomax, gomin, *] <;> omega, O⟩
    · rintro L a' v ⟨rfl, O⟩ hL hd hcl K hK
      have HK := Lib.hid hK
      clear hK
      have hB := O.below; have hz := O.size; have S0 : Cel v (w.heap.size) 0 (.int .i64 s) := O.cels.1; have S1 : Cel v (w.heap.size) 1 (.int .i64 st) := O.cels.2.1; have S2 : Cel v (w.heap.size) 2 (.slice p n c) := O.cels.2.2.1; have S3 : Cel v (w.heap.size + 1) 0 (.int .i64 f) := O.cels.2.2.2.1; have S4 : Cel v (w.heap.size + 1 + 1) 0 (.int .i64 u) := O.cels.2.2.2.2.1; have S5 : Cel v (w.heap.size + 1 + 1 + 1) 0 (.int .i64 0) := O.cels.2.2.2.2.2.1; have S6 : Cel v (w.heap.size + 1 + 1 + 1) 1 (.int .i64 0) := O.cels.2.2.2.2.2.2.1
      simp [Region.binds] at hd
      simp only [pcs, List.foldl_cons, List.foldl_nil, Act.put]
      go_simp
      exact HK.out _ _ ⟨by simp [pcs, Act.put, upd, gomax, gomin, *] <;> omega, O⟩
    · rintro L a' v ⟨rfl, O⟩ hL hd hcl K hK
      have HK := Lib.hid hK
      clear hK
      have hB := O.below; have hz := O.size; have S0 : Cel v (w.heap.size) 0 (.int .i64 s) := O.cels.1; have S1 : Cel v (w.heap.size) 1 (.int .i64 st) := O.cels.2.1; have S2 : Cel v (w.heap.size) 2 (.slice p n c) := O.cels.2.2.1; have S3 : Cel v (w.heap.size + 1) 0 (.int .i64 f) := O.cels.2.2.2.1; have S4 : Cel v (w.heap.size + 1 + 1) 0 (.int .i64 u) := O.cels.2.2.2.2.1; have S5 : Cel v (w.heap.size + 1 + 1 + 1) 0 (.int .i64 0) := O.cels.2.2.2.2.2.1; have S6 : Cel v (w.heap.size + 1 + 1 + 1) 1 (.int .i64 0) := O.cels.2.2.2.2.2.2.1
      simp [Region.binds] at hd
      simp only [pcs, List.foldl_cons, List.foldl_nil, Act.put]
      go_simp
      exact HK.out _ _ ⟨by simp [pcs, Act.put, upd, gomax, gomin, *] <;> omega, O⟩
    · rintro L a' v ⟨rfl, O⟩ hL hd hcl K hK
      have HK := Lib.hid hK
      clear hK
      have hB := O.below; have hz := O.size; have S0 : Cel v (w.heap.size) 0 (.int .i64 s) := O.cels.1; have S1 : Cel v (w.heap.size) 1 (.int .i64 st) := O.cels.2.1; have S2 : Cel v (w.heap.size) 2 (.slice p n c) := O.cels.2.2.1; have S3 : Cel v (w.heap.size + 1) 0 (.int .i64 f) := O.cels.2.2.2.1; have S4 : Cel v (w.heap.size + 1 + 1) 0 (.int .i64 u) := O.cels.2.2.2.2.1; have S5 : Cel v (w.heap.size + 1 + 1 + 1) 0 (.int .i64 0) := O.cels.2.2.2.2.2.1; have S6 : Cel v (w.heap.size + 1 + 1 + 1) 1 (.int .i64 0) := O.cels.2.2.2.2.2.2.1
      simp [Region.binds] at hd
      simp only [pcs, List.foldl_cons, List.foldl_nil, Act.put]
      go_simp
      exact HK.out _ _ ⟨by simp [pcs, Act.put, upd, gomax, gomin, *] <;> omega, O⟩
    · rintro L a' v ⟨rfl, O⟩ hL hd hcl K hK
      have HK := Lib.hid hK
      clear hK
      have hB := O.below; have hz := O.size; have S0 : Cel v (w.heap.size) 0 (.int .i64 s) := O.cels.1; have S1 : Cel v (w.heap.size) 1 (.int .i64 st) := O.cels.2.1; have S2 : Cel v (w.heap.size) 2 (.slice p n c) := O.cels.2.2.1; have S3 : Cel v (w.heap.size + 1) 0 (.int .i64 f) := O.cels.2.2.2.1; have S4 : Cel v (w.heap.size + 1 + 1) 0 (.int .i64 u) := O.cels.2.2.2.2.1; have S5 : Cel v (w.heap.size + 1 + 1 + 1) 0 (.int .i64 0) := O.cels.2.2.2.2.2.1; have S6 : Cel v (w.heap.size + 1 + 1 + 1) 1 (.int .i64 0) := O.cels.2.2.2.2.2.2.1
      simp [Region.binds] at hd
      simp only [pcs, List.foldl_cons, List.foldl_nil, Act.put]
      go_simp
      exact HK.out _ _ ⟨by simp [pcs, Act.put, upd, gomax, gomin, *] <;> omega, O⟩
    · rintro L a' v ⟨rfl, O⟩ hL hd hcl K hK
      have HK := Lib.hid hK
      clear hK
      have hB := O.below; have hz := O.size; have S0 : Cel v (w.heap.size) 0 (.int .i64 s) := O.cels.1; have S1 : Cel v (w.heap.size) 1 (.int .i64 st) := O.cels.2.1; have S2 : Cel v (w.heap.size) 2 (.slice p n c) := O.cels.2.2.1; have S3 : Cel v (w.heap.size + 1) 0 (.int .i64 f) := O.cels.2.2.2.1; have S4 : Cel v (w.heap.size + 1 + 1) 0 (.int .i64 u) := O.cels.2.2.2.2.1; have S5 : Cel v (w.heap.size + 1 + 1 + 1) 0 (.int .i64 0) := O.cels.2.2.2.2.2.1; have S6 : Cel v (w.heap.size + 1 + 1 + 1) 1 (.int .i64 0) := O.cels.2.2.2.2.2.2.1
      simp [Region.binds] at hd
      simp only [pcs, List.foldl_cons, List.foldl_nil, Act.put]
      go_simp
      exact HK.out _ _ ⟨by simp [pcs, Act.put, upd, gomax, gomin, *] <;> omega, O⟩
    · rintro L a' v ⟨rfl, O⟩ hL hd hcl K hK
      have HK := Lib.hid hK
      clear hK
      have hB := O.below; have hz := O.size; have S0 : Cel v (w.heap.size) 0 (.int .i64 s) := O.cels.1; have S1 : Cel v (w.heap.size) 1 (.int .i64 st) := O.cels.2.1; have S2 : Cel v (w.heap.size) 2 (.slice p n c) := O.cels.2.2.1; have S3 : Cel v (w.heap.size + 1) 0 (.int .i64 f) := O.cels.2.2.2.1; have S4 : Cel v (w.heap.size + 1 + 1) 0 (.int .i64 u) := O.cels.2.2.2.2.1; have S5 : Cel v (w.heap.size + 1 + 1 + 1) 0 (.int .i64 0) := O.cels.2.2.2.2.2.1; have S6 : Cel v (w.heap.size + 1 + 1 + 1) 1 (.int .i64 0) := O.cels.2.2.2.2.2.2.1
      simp [Region.binds] at hd
      simp only [pcs, List.foldl_cons, List.foldl_nil, Act.put]
      go_simp
      exact HK.out _ _ ⟨by simp [pcs, Act.put, upd, gomax, gomin, *] <;> omega, O⟩
    · rintro L a' v ⟨rfl, O⟩ hL hd hcl K hK
      have HK := Lib.hid hK
      clear hK
      have hB := O.below; have hz := O.size; have S0 : Cel v (w.heap.size) 0 (.int .i64 s) := O.cels.1; have S1 : Cel v (w.heap.size) 1 (.int .i64 st) := O.cels.2.1; have S2 : Cel v (w.heap.size) 2 (.slice p n c) := O.cels.2.2.1; have S3 : Cel v (w.heap.size + 1) 0 (.int .i64 f) := O.cels.2.2.2.1; have S4 : Cel v (w.heap.size + 1 + 1) 0 (.int .i64 u) := O.cels.2.2.2.2.1; have S5 : Cel v (w.heap.size + 1 + 1 + 1) 0 (.int .i64 0) := O.cels.2.2.2.2.2.1; have S6 : Cel v (w.heap.size + 1 + 1 + 1) 1 (.int .i64 0) := O.cels.2.2.2.2.2.2.1
      simp [Region.binds] at hd
      simp only [pcs, List.foldl_cons, List.foldl_nil, Act.put]
      go_simp
      refine (last_any s st p n c _ hv.s0 hv.s1 hv.n0 hv.n1 hv.st0 hv.st1).mono ?_
      rintro e v' ⟨rfl, hb⟩
      go_simp
      exact HK.out _ _ ⟨by simp [pcs, Act.put, upd, gomax, gomin, *] <;> omega, O.keep hb⟩
    · rintro L a' v ⟨rfl, O⟩ hL hd hcl K hK
      have HK := Lib.hid hK
      clear hK
      have hB := O.below; have hz := O.size; have S0 : Cel v (w.heap.size) 0 (.int .i64 s) := O.cels.1; have S1 : Cel v (w.heap.size) 1 (.int .i64 st) := O.cels.2.1; have S2 : Cel v (w.heap.size) 2 (.slice p n c) := O.cels.2.2.1; have S3 : Cel v (w.heap.size + 1) 0 (.int .i64 f) := O.cels.2.2.2.1; have S4 : Cel v (w.heap.size + 1 + 1) 0 (.int .i64 u) := O.cels.2.2.2.2.1; have S5 : Cel v (w.heap.size + 1 + 1 + 1) 0 (.int .i64 0) := O.cels.2.2.2.2.2.1; have S6 : Cel v (w.heap.size + 1 + 1 + 1) 1 (.int .i64 0) := O.cels.2.2.2.2.2.2.1
      simp [Region.binds] at hd
      simp only [pcs, List.foldl_cons, List.foldl_nil, Act.put]
      go_simp
      exact HK.out _ _ ⟨by simp [pcs, Act.put, upd, gomax, gomin, *] <;> omega, O⟩
    · rintro L a' v ⟨rfl, O⟩ hL hd hcl K hK
      have HK := Lib.hid hK
      clear hK
      have hB := O.below; have hz := O.size; have S0 : Cel v (w.heap.size) 0 (.int .i64 s) := O.cels.1; have S1 : Cel v (w.heap.size) 1 (.int .i64 st) := O.cels.2.1; have S2 : Cel v (w.heap.size) 2 (.slice p n c) := O.cels.2.2.1; have S3 : Cel v (w.heap.size + 1) 0 (.int .i64 f) := O.cels.2.2.2.1; have S4 : Cel v (w.heap.size + 1 + 1) 0 (.int .i64 u) := O.cels.2.2.2.2.1; have S5 : Cel v (w.heap.size + 1 + 1 + 1) 0 (.int .i64 0) := O.cels.2.2.2.2.2.1; have S6 : Cel v (w.heap.size + 1 + 1 + 1) 1 (.int .i64 0) := O.cels.2.2.2.2.2.2.1
      simp [Region.binds] at hd
      simp only [pcs, List.foldl_cons, List.foldl_nil, Act.put]
      go_simp
      exact HK.out _ _ ⟨by simp [pcs, Act.put, upd, gomax, gomin, *] <;> omega, O⟩
  rintro L a' w3 hL ⟨ea, OO⟩
  have L0 := hL 0 (by decide); have L1 := hL 1 (by decide); have L2 := hL 2 (by decide); have L3 := hL 3 (by decide); have L4 := hL 4 (by decide); have L5 := hL 5 (by decide); have L6 := hL 6 (by decide); have L7 := hL 7 (by decide); have L8 := hL 8 (by decide); have L9 := hL 9 (by decide)
  have hB3 := OO.below; have hz3 := OO.size; have hl3 := OO.le; have S3_0 : Cel w3 (w.heap.size) 0 (.int .i64 s) := OO.cels.1; have S3_1 : Cel w3 (w.heap.size) 1 (.int .i64 st) := OO.cels.2.1; have S3_2 : Cel w3 (w.heap.size) 2 (.slice p n c) := OO.cels.2.2.1; have S3_3 : Cel w3 (w.heap.size + 1) 0 (.int .i64 f) := OO.cels.2.2.2.1; have S3_4 : Cel w3 (w.heap.size + 1 + 1) 0 (.int .i64 u) := OO.cels.2.2.2.2.1; have S3_5 : Cel w3 (w.heap.size + 1 + 1 + 1) 0 (.int .i64 0) := OO.cels.2.2.2.2.2.1; have S3_6 : Cel w3 (w.heap.size + 1 + 1 + 1) 1 (.int .i64 0) := OO.cels.2.2.2.2.2.2.1
  simp [pcs, Act.put, L0, L1, L2, L3, L4, L5, L6, L7, L8, L9] at ea
  subst ea
  clear hL L0 L1 L2 L3 L4 L5 L6 L7 L8 L9
  have O3 : Own w (w3.heap.size) w3 [(w.heap.size, 0, .int .i64 s), (w.heap.size, 1, .int .i64 st), (w.heap.size, 2, .slice p n c), (w.heap.size + 1, 0, .int .i64 f), (w.heap.size + 1 + 1, 0, .int .i64 u), (w.heap.size + 1 + 1 + 1, 0, .int .i64 0), (w.heap.size + 1 + 1 + 1, 1, .int .i64 0)] := ⟨hB3, Nat.le_refl _, (by (repeat' (first | (with_reducible assumption) | (with_reducible exact Below.refl _ _) | (with_reducible exact Cels.nil _) | (with_reducible refine Cels.cons ?_ ?_) | (with_reducible refine Own.mk ?_ ?_ ?_ ?_) | ((with_reducible refine Cel.new ?_ rfl); first | (with_reducible rfl) | omega | (simp; done) | (simp; omega)) | (with_reducible refine Cel.alloc ?_ _) | (with_reducible refine Cel.drew ?_) | (with_reducible refine Cel.setS ?_ _) | (with_reducible refine Has.set ?_ _ _) | (with_reducible exact Has.of (by assumption)) | (with_reducible refine Cel.setO ?_ ?_ _) | (with_reducible refine Cel.keep (by assumption) ?_) | (with_reducible refine Below.alloc ?_ ?_ _) | (with_reducible refine Below.drew ?_) | (with_reducible refine Below.setCell ?_ ?_ _) | (with_reducible refine below_keep ?_ ?_ (by assumption)) | omega | (simp; done) | (simp; omega)))), hB3.size⟩
  clear OO
  go_wp2_with (go_at_call 40; refine (stretches_any s st p n c _).mono ?_; rintro e w' ⟨rfl, rfl⟩)
  have O0 : Own w (w3.heap.size + 3) (((w3.alloc (.cells #[.int .i64 0, .int .i64 0] 30)).alloc (.cells #[.bool false] 4)).alloc (.cells #[.int .i64 s, .int .i64 st, .slice p n c] 24)) [(w.heap.size + 1, 0, .int .i64 f), (w.heap.size + 2, 0, .int .i64 u), (w.heap.size + 3, 0, .int .i64 0), (w.heap.size + 3, 1, .int .i64 0), (w3.heap.size, 0, .int .i64 0), (w3.heap.size, 1, .int .i64 0), (w3.heap.size + 1, 0, .bool false)] := (by (repeat' (first | (with_reducible assumption) | (with_reducible exact Below.refl _ _) | (with_reducible exact Cels.nil _) | (with_reducible refine Cels.cons ?_ ?_) | (with_reducible refine Own.mk ?_ ?_ ?_ ?_) | ((with_reducible refine Cel.new ?_ rfl); first | (with_reducible rfl) | omega | (simp; done) | (simp; omega)) | (with_reducible refine Cel.alloc ?_ _) | (with_reducible refine Cel.drew ?_) | (with_reducible refine Cel.setS ?_ _) | (with_reducible refine Has.set ?_ _ _) | (with_reducible exact Has.of (by assumption)) | (with_reducible refine Cel.setO ?_ ?_ _) | (with_reducible refine Cel.keep (by assumption) ?_) | (with_reducible refine Below.alloc ?_ ?_ _) | (with_reducible refine Below.drew ?_) | (with_reducible refine Below.setCell ?_ ?_ _) | (with_reducible refine below_keep ?_ ?_ (by assumption)) | omega | (simp; done) | (simp; omega))))
  have xb : (((w3.alloc (.cells #[.int .i64 0, .int .i64 0] 30)).alloc (.cells #[.bool false] 4)).alloc (.cells #[.int .i64 s, .int .i64 st, .slice p n c] 24)).heap[w3.heap.size + 2]? = some (.cells #[.int .i64 s, .int .i64 st, .slice p n c] 24 (0, 0)) := by
    have := World.alloc_heap_new ((w3.alloc (.cells #[.int .i64 0, .int .i64 0] 30)).alloc (.cells #[.bool false] 4)) (.cells #[.int .i64 s, .int .i64 st, .slice p n c] 24)
    simpa using this
  have hs0 : (((w3.alloc (.cells #[.int .i64 0, .int .i64 0] 30)).alloc (.cells #[.bool false] 4)).alloc (.cells #[.int .i64 s, .int .i64 st, .slice p n c] 24)).heap.size = w3.heap.size + 3 := by simp
  clear S3_0 S3_1 S3_2 S3_3 S3_4 S3_5 S3_6 O3
  generalize (((w3.alloc (.cells #[.int .i64 0, .int .i64 0] 30)).alloc (.cells #[.bool false] 4)).alloc (.cells #[.int .i64 s, .int .i64 st, .slice p n c] 24)) = W0 at *
  have hL0 : Lie W0 p n lo hi := hL.keep O0.below
  have rn : rowAt (w.heap.size + 1) W0 = none := rowAt_none O0.cels.1.1
  refine (wpIn_wide (n := 2)).1 ?_
  refine range_box (n₀ := w.heap.size) (bO := w.heap.size + 1) (B := w3.heap.size + 2) rfl (enters_of Try.func54 (by kernel_rfl) rfl) (str_stops s st p n c lo hi hv _ _ _ (w3.heap.size + 2) (Nat.le_refl _) W0 ⟨fun k hk => by (rw [rn] at hk; cases hk), by (rw [rn]; simp), xb, hL0, hp, by omega, by omega⟩) (by omega) (by omega) (fun _ => rfl)
    (fun (pre : List St) W => Own w (w3.heap.size + 3) W [(w.heap.size + 1, 0, .int .i64 f), (w.heap.size + 2, 0, .int .i64 u), (w.heap.size + 3, 0, .int .i64 0), (w.heap.size + 3, 1, .int .i64 0), (w3.heap.size, 0, .int .i64 (oL (fo f u (pre.map (·.1))))), (w3.heap.size, 1, .int .i64 (oH (fo f u (pre.map (·.1))))), (w3.heap.size + 1, 0, .bool (fo f u (pre.map (·.1))).isSome)] ∧ okO (fo f u (pre.map (·.1)))) (OwnFrom.and (own_from (by omega) (fun (pre : List St) => [(w.heap.size + 1, 0, .int .i64 f), (w.heap.size + 2, 0, .int .i64 u), (w.heap.size + 3, 0, .int .i64 0), (w.heap.size + 3, 1, .int .i64 0), (w3.heap.size, 0, .int .i64 (oL (fo f u (pre.map (·.1))))), (w3.heap.size, 1, .int .i64 (oH (fo f u (pre.map (·.1))))), (w3.heap.size + 1, 0, .bool (fo f u (pre.map (·.1))).isSome)])) (fun _ _ _ _ hs _ _ => hs)) (fun pre W hi => by have := hi.1.size; omega) ⟨O0, trivial⟩ 10 62
    (fun x => #[.int .i64 x.1.1, .int .i64 x.1.2.1, .int .i64 x.1.2.2.1, .int .i64 x.1.2.2.2]) ?assign ?body ?done
  case assign =>
    intro l x W K hK
    gi_wp2
    simpa using hK
  case body =>
    rintro l pre ⟨⟨xa, xc, xl, xh⟩, hxx⟩ Bx W ⟨O, ok⟩ hx hBx hlen
    have hpre : fo f u ((pre ++ [(⟨(xa, xc, xl, xh), hxx⟩ : St)]).map (·.1)) = accS f u (fo f u (pre.map (·.1))) (xa, xc, xl, xh) := by rw [List.map_append]; exact fo_snoc _ _ _ _
    obtain ⟨hx1, hx2, hx3, hx4, hx5, hx6⟩ := hxx
    simp only at hx1 hx2 hx3 hx4 hx5 hx6 hx
    rw [ownPost_at]
    simp only [hpre]
    clear hpre
    generalize fo f u (pre.map (·.1)) = o at *
    have X0 : Cel W Bx 0 (.int .i64 xa) := ⟨by simp [World.cell?, hx], by simp [World.frozen?, hx]⟩
    have X1 : Cel W Bx 1 (.int .i64 xc) := ⟨by simp [World.cell?, hx], by simp [World.frozen?, hx]⟩
    have X2 : Cel W Bx 2 (.int .i64 xl) := ⟨by simp [World.cell?, hx], by simp [World.frozen?, hx]⟩
    have X3 : Cel W Bx 3 (.int .i64 xh) := ⟨by simp [World.cell?, hx], by simp [World.frozen?, hx]⟩
    have hT : IsT W Bx 62 := ⟨_, _, hx⟩
    have hBl := X0.lt
    clear hx
    have hB := O.below; have hz := O.size; have S0 : Cel W (w.heap.size + 1) 0 (.int .i64 f) := O.cels.1; have S1 : Cel W (w.heap.size + 2) 0 (.int .i64 u) := O.cels.2.1; have S2 : Cel W (w.heap.size + 3) 0 (.int .i64 0) := O.cels.2.2.1; have S3 : Cel W (w.heap.size + 3) 1 (.int .i64 0) := O.cels.2.2.2.1; have S4 : Cel W (w3.heap.size) 0 (.int .i64 ((oL o))) := O.cels.2.2.2.2.1; have S5 : Cel W (w3.heap.size) 1 (.int .i64 ((oH o))) := O.cels.2.2.2.2.2.1; have S6 : Cel W (w3.heap.size + 1) 0 (.bool o.isSome) := O.cels.2.2.2.2.2.2.1
    by_cases g1 : xc < f
    · rw [accS_m1 g1]
      gi_wp2
      repeat' apply And.intro
      all_goals first | exact KeepsFrom.refl _ _ | exact Kp.refl _ | exact O | exact ok
    by_cases g2 : u < xa
    · rw [accS_m2 g2]
      gi_wp2
      repeat' apply And.intro
      all_goals first | exact KeepsFrom.refl _ _ | exact Kp.refl _ | exact O | exact ok
    cases o with
    | none =>
      rw [accS_n g1 g2]
      gi_wp2
      refine ⟨(by (repeat' (first | exact KK.refl _ | refine KK.set ?_ _ ?_ ?_ ?_ | refine KK.loopT ?_ _ ?_ ?_ ?_ | refine IsT.set ?_ _ _ _ | exact hT | exact hT.keep hb | refine KK.below ?_ hb ?_ ?_ | omega | (simp; omega))) : KK w.heap.size (w.heap.size + 1) (w3.heap.size + 2) (w3.heap.size + 3) W _).1, (by (repeat' (first | exact KK.refl _ | refine KK.set ?_ _ ?_ ?_ ?_ | refine KK.loopT ?_ _ ?_ ?_ ?_ | refine IsT.set ?_ _ _ _ | exact hT | exact hT.keep hb | refine KK.below ?_ hb ?_ ?_ | omega | (simp; omega))) : KK w.heap.size (w.heap.size + 1) (w3.heap.size + 2) (w3.heap.size + 3) W _).2, ?_, ?_⟩
      · simp only [oL, oH, Option.isSome_some]
        (repeat' (first | (with_reducible assumption) | (with_reducible exact Below.refl _ _) | (with_reducible exact Cels.nil _) | (with_reducible refine Cels.cons ?_ ?_) | (with_reducible refine Own.mk ?_ ?_ ?_ ?_) | ((with_reducible refine Cel.new ?_ rfl); first | (with_reducible rfl) | omega | (simp; done) | (simp; omega)) | (with_reducible refine Cel.alloc ?_ _) | (with_reducible refine Cel.drew ?_) | (with_reducible refine Cel.setS ?_ _) | (with_reducible refine Has.set ?_ _ _) | (with_reducible exact Has.of (by assumption)) | (with_reducible refine Cel.setO ?_ ?_ _) | (with_reducible refine Cel.keep (by assumption) ?_) | (with_reducible refine Below.alloc ?_ ?_ _) | (with_reducible refine Below.drew ?_) | (with_reducible refine Below.setCell ?_ ?_ _) | (with_reducible refine below_keep ?_ ?_ (by assumption)) | omega | (simp; done) | (simp; omega)))
      · exact ⟨hx4, hx5, hx6⟩
    | some a =>
      obtain ⟨a1, a2⟩ := a
      obtain ⟨k1, k2, k3⟩ := ok
      simp only at k1 k2 k3
      rw [accS_s g1 g2]
      simp only [oL, oH, Option.isSome_some] at S4 S5 S6
      gi_wp2
      refine ⟨trivial, rfl, ?_⟩
      skip
      refine (CallsIn.inRound l (callsIn_wide.2 (join_hv _ ⟨k1, k2, k3⟩ ⟨hx4, hx5, hx6⟩))).mono ?_
      rintro e w' ⟨rfl, hb⟩
      have Z2 := X2.keep hb; have Z3 := X3.keep hb; have Z4 := S4.keep hb; have Z5 := S5.keep hb; have Z6 := S6.keep hb; have hss := hb.size
      gi_wp2
      have kk : KK w.heap.size (w.heap.size + 1) (w3.heap.size + 2) W0.heap.size W _ := ((((((KK.refl W).below hb (by omega) (by omega)).loopT (.int .i64 (min a1 xl)) (b := Bx) (o := 2) (by omega) (hT.keep hb) (by omega)).loopT (.int .i64 (max a2 xh)) (b := Bx) (o := 3) (by omega) ((hT.keep hb).set _ _ _) (by omega)).set (.int .i64 (min a1 xl)) (b := w3.heap.size) (o := 0) (by omega) (by omega) (by omega)).set (.int .i64 (max a2 xh)) (b := w3.heap.size) (o := 1) (by omega) (by omega) (by omega)).set (.bool true) (b := w3.heap.size + 1) (o := 0) (by omega) (by omega) (by omega)
      refine ⟨kk.1, kk.2, ?_, ?_⟩
      · have OK2 := O.keep hb
        simp only [oL, oH, Option.isSome_some]
        (repeat' (first | (with_reducible assumption) | (with_reducible exact Below.refl _ _) | (with_reducible exact Cels.nil _) | (with_reducible refine Cels.cons ?_ ?_) | (with_reducible refine Own.mk ?_ ?_ ?_ ?_) | ((with_reducible refine Cel.new ?_ rfl); first | (with_reducible rfl) | omega | (simp; done) | (simp; omega)) | (with_reducible refine Cel.alloc ?_ _) | (with_reducible refine Cel.drew ?_) | (with_reducible refine Cel.setS ?_ _) | (with_reducible refine Has.set ?_ _ _) | (with_reducible exact Has.of (by assumption)) | (with_reducible refine Cel.setO ?_ ?_ _) | (with_reducible refine Cel.keep (by assumption) ?_) | (with_reducible refine Below.alloc ?_ ?_ _) | (with_reducible refine Below.drew ?_) | (with_reducible refine Below.setCell ?_ ?_ _) | (with_reducible refine below_keep ?_ ?_ (by assumption)) | omega | (simp; done) | (simp; omega)))
      · exact ⟨by simp only []; omega, by simp only []; omega, by simp only []; omega⟩
  case done =>
    rintro D xs W hD hxs ⟨O, ok⟩ hK
    rw [hxs] at O ok
    obtain ⟨o, ho⟩ : ∃ o, fo f u (strs s st lo hi n) = o := ⟨_, rfl⟩
    rw [ho] at O ok
    have hB := O.below; have hz := O.size; have S0 : Cel W (w.heap.size + 1) 0 (.int .i64 f) := O.cels.1; have S1 : Cel W (w.heap.size + 2) 0 (.int .i64 u) := O.cels.2.1; have S2 : Cel W (w.heap.size + 3) 0 (.int .i64 0) := O.cels.2.2.1; have S3 : Cel W (w.heap.size + 3) 1 (.int .i64 0) := O.cels.2.2.2.1; have S4 : Cel W (w3.heap.size) 0 (.int .i64 ((oL o))) := O.cels.2.2.2.2.1; have S5 : Cel W (w3.heap.size) 1 (.int .i64 ((oH o))) := O.cels.2.2.2.2.2.1; have S6 : Cel W (w3.heap.size + 1) 0 (.bool o.isSome) := O.cels.2.2.2.2.2.2.1
    gi_wp2
    go_wp2
    have hK2 : ((W.setCell ⟨w.heap.size + 3, 0, none⟩ (.int .i64 (oL o))).setCell ⟨w.heap.size + 3, 1, none⟩ (.int .i64 (oH o))).heap[D]? = some (.deferred (some [])) := by
      rw [setCell_block _ _ _ _ _ (by omega), setCell_block _ _ _ _ _ (by omega)]; exact hK
    have O2 : Own w (w3.heap.size + 3) ((W.setCell ⟨w.heap.size + 3, 0, none⟩ (.int .i64 (oL o))).setCell ⟨w.heap.size + 3, 1, none⟩ (.int .i64 (oH o))) [(w.heap.size + 3, 0, .int .i64 (oL o)), (w.heap.size + 3, 1, .int .i64 (oH o))] := by
      (repeat' (first | (with_reducible assumption) | (with_reducible exact Below.refl _ _) | (with_reducible exact Cels.nil _) | (with_reducible refine Cels.cons ?_ ?_) | (with_reducible refine Own.mk ?_ ?_ ?_ ?_) | ((with_reducible refine Cel.new ?_ rfl); first | (with_reducible rfl) | omega | (simp; done) | (simp; omega)) | (with_reducible refine Cel.alloc ?_ _) | (with_reducible refine Cel.drew ?_) | (with_reducible refine Cel.setS ?_ _) | (with_reducible refine Has.set ?_ _ _) | (with_reducible exact Has.of (by assumption)) | (with_reducible refine Cel.setO ?_ ?_ _) | (with_reducible refine Cel.keep (by assumption) ?_) | (with_reducible refine Below.alloc ?_ ?_ _) | (with_reducible refine Below.drew ?_) | (with_reducible refine Below.setCell ?_ ?_ _) | (with_reducible refine below_keep ?_ ?_ (by assumption)) | omega | (simp; done) | (simp; omega)))
    refine ⟨by simp, .inl ⟨_, _, rfl, run_takeDeferred hK2, ?_⟩⟩
    have O3 := own_putObj (.deferred none) O2 (by omega) hK2 rfl
    have U0 := O3.cels.1
    have U1 := O3.cels.2.1
    refine ⟨se (oL o) (oH o) 0, by simp [results, Try.results15, go_sem, *] <;> omega, by rw [ho], O3.below⟩

end Go.Proofs.Ytmljnelmnagfoaa
