/- Part 16 of 16: contracts of functions and plain laws for the root text. No condition. -/
import Derived.Test.YtcfechepbamhkaaGreatY01
import Derived.Test.YtcfechepbamhkaaGreatY02
import Derived.Test.YtcfechepbamhkaaGreatY03
import Derived.Test.YtcfechepbamhkaaGreatY04
import Derived.Test.YtcfechepbamhkaaGreatY05
import Derived.Test.YtcfechepbamhkaaGreatY06
import Derived.Test.YtcfechepbamhkaaGreatY07
import Derived.Test.YtcfechepbamhkaaGreatY08
import Derived.Test.YtcfechepbamhkaaGreatY09
import Derived.Test.YtcfechepbamhkaaGreatY10
import Derived.Test.YtcfechepbamhkaaGreatY11
import Derived.Test.YtcfechepbamhkaaGreatY12
import Derived.Test.YtcfechepbamhkaaGreatY13
import Derived.Test.YtcfechepbamhkaaGreatY14
import Derived.Test.YtcfechepbamhkaaGreatY15
import Derived.Shelf.SlGeneric
import Derived.Ground.SlgfProg
import Derived.Shelf.SlicesE.DeleteFunc
import Derived.Test.YtcfechepbamhkaaGreatProg
set_option linter.unusedVariables false
set_option linter.unusedSimpArgs false
namespace Go.Proofs.YtcfechepbamhkaaGreat
open Go.RowKit Go.Sea
theorem Tq (n : Nat) (s : Nat -> Int) : oC n n s s = true := decide_eq_true ⟨rfl, fun _ _ => rfl⟩
theorem Ym (w n : Nat) (P : Nat -> Nat -> Int) : Ba w n n P P = true := decide_eq_true ⟨rfl, fun _ _ _ _ => rfl⟩
theorem Ug (f : aN) : uP f f = true := by unfold uP; rw [Ym, Ym, decide_eq_true (by simp)]; rfl
theorem Lf (n : Nat) (f : Nat -> aN) : yZ n n f f = true := decide_eq_true ⟨rfl, fun i _ => Ug _⟩
theorem agT (a : bE) : seqB a a = true := by unfold seqB; rw [Tq, Lf, decide_eq_true (by simp)]; rfl
theorem af7 (n : Nat) (f : Nat -> eG) : Gc n n f f = true := decide_eq_true ⟨rfl, fun i _ => by unfold qW; rw [Ug, decide_eq_true (by simp)]; rfl⟩
theorem ahM (p : d9) : wE p p = true := by unfold wE; rw [decide_eq_true rfl, Tq, af7]; rfl
theorem JI (a : ah) : qp a a = true := by unfold qp Ld; rw [decide_eq_true (by simp), decide_eq_true ⟨rfl, fun i _ => ahM _⟩]; rfl
theorem UC (f : aj) : Jy f f = true := decide_eq_true ⟨rfl, rfl, fun i _ => agT _, fun i _ => JI _⟩
structure RcO (f : aj) (M : ah) : Prop where
  v : dR f = true
  m : gM M = true
  n : f.n < 200
  o : 0 < f.n -> (f.N 0).oc = M.oc
  j : ¬ (iN f M < f.n /\ (f.N (iN f M)).nu = M.nu)
theorem ama {f : aj} {M : ah} (h : jZ f M = 0) : RcO f M := ⟨(qO h).1, (qO h).2.1, (qO h).2.2.1, (qO h).2.2.2.1, (qO h).2.2.2.2⟩
theorem RcO.lo {f : aj} {M : ah} (h : RcO f M) {i : Nat} (hi : i < iN f M) : (f.N i).nu < M.nu := (DR h.v (by have := mZ f M; omega)).2 hi
theorem RcO.hi {f : aj} {M : ah} (h : RcO f M) {i : Nat} (hi : iN f M <= i) (hn : i < f.n) : M.nu < (f.N i).nu := by
  have h1 := mt (DR (M := M) h.v hn).1 (by omega)
  have h2 : (f.N i).nu ≠ M.nu := fun e => h.j (by have := Vx h.v hn e; subst this; exact ⟨hn, e⟩)
  omega
theorem sF {f : aj} {M : ah} {j i : Nat} (h : i < j) : za f j M i = f.N i := if_pos h
theorem xZ (f : aj) (M : ah) (j : Nat) : za f j M j = M := by unfold za; rw [if_neg (by omega), if_pos rfl]
theorem rM {f : aj} {M : ah} {j i : Nat} (h : j < i) : za f j M i = f.N (i - 1) := by unfold za; rw [if_neg (by omega), if_neg (by omega)]
theorem RcO.nts {f : aj} {M : ah} (h : RcO f M) : wZ (f.n + 1) (za f (iN f M) M) = true := by
  have hJ := mZ f M
  have hN := lW (iE h.v).2.2
  have hoc : ∀ i, i < f.n + 1 -> (za f (iN f M) M i).oc = M.oc := fun i hi => by
    rcases Nat.lt_trichotomy i (iN f M) with g | g | g
    · rw [sF g, (hN.2 i (by omega)).2.1]; exact h.o (by omega)
    · rw [g, xZ]
    · rw [rM g, (hN.2 (i - 1) (by omega)).2.1]; exact h.o (by omega)
  refine decide_eq_true ⟨by have := h.n; omega, fun i hi => ⟨?_, by rw [hoc i hi, hoc 0 (by omega)], fun h0 => ?_⟩⟩
  · rcases Nat.lt_trichotomy i (iN f M) with g | g | g
    · rw [sF g]; exact (hN.2 i (by omega)).1
    · rw [g, xZ]; exact h.m
    · rw [rM g]; exact (hN.2 (i - 1) (by omega)).1
  · rcases Nat.lt_trichotomy i (iN f M) with g | g | g
    · rw [sF g, sF (by omega)]; exact (hN.2 i (by omega)).2.2 h0
    · rw [g, xZ, sF (by omega)]; exact h.lo (by omega)
    · by_cases g2 : i - 1 = iN f M
      · rw [rM g, g2, xZ]; exact h.hi (Nat.le_refl _) (by omega)
      · rw [rM g, rM (by omega)]; exact (hN.2 (i - 1) (by omega)).2.2 (by omega)
theorem RcO.g {f : aj} {M : ah} (h : RcO f M) : dR (YT f M) = true := by
  have hv := iE h.v
  unfold dR
  rw [Bool.and_eq_true]
  exact ⟨decide_eq_true ⟨hv.1, hv.2.1⟩, h.nts⟩
theorem ahs {f : aj} (h : dR f = true) : dR (JL f) = true := by
  have hv := iE h
  unfold dR
  rw [Bool.and_eq_true]
  refine ⟨decide_eq_true ⟨hv.1, fun i hi => ?_⟩, hv.2.2⟩
  have h1 := hv.2.1 i hi
  have h2 := adU (n := f.n) (N := f.N) h1.1
  refine ⟨h2.1, fun h0 => ?_⟩
  have h3 := adU (n := f.n) (N := f.N) (hv.2.1 (i - 1) (by have : i < f.k := hi; omega)).1
  show (wY (f.S (i - 1)) f.n f.N).ch < (wY (f.S i) f.n f.N).ch
  rw [h2.2.1, h3.2.1]; exact h1.2 h0
theorem aa4 {f : aj} {M : ah} (h : jZ f M = 0) : dR (vX f M) = true /\ vX f M = JL (YT f M) := ⟨by rw [Ee h]; exact ahs (ama h).g, Ee h⟩
theorem Uz {f : aj} {M : ah} (h : jZ f M = 0) : (vX f M).N (iN f M) = M /\ (vX f M).n = f.n + 1 /\ (vX f M).k = f.k := by
  rw [(aa4 h).2]; exact ⟨xZ _ _ _, rfl, rfl⟩
end Go.Proofs.YtcfechepbamhkaaGreat
set_option maxRecDepth 100000
set_option maxHeartbeats 4000000
namespace Go.Proofs.YtcfechepbamhkaaGreat
open Go.RowKit Go.Sea
open Nat renaming reduceAdd -> xA, reduceLT -> xL, reduceLeDiff -> xD, reduceEqDiff -> xE, reduceMul -> xM, reduceSub -> xS, reduceBEq -> xB
theorem FZ : aK Tryz.prog 13 = true := by kernel_rfl
theorem qJ : aK Tryz.prog 20 = true := by kernel_rfl
theorem qP : aK Tryz.prog 21 = true := by kernel_rfl
theorem EU : aK Tryz.prog 29 = true := by kernel_rfl
theorem NS : aK Tryz.prog 39 = true := by kernel_rfl
theorem akz : fE Tryz.prog 35 = true := by kernel_rfl
theorem acI : dz Tryz.prog 28 0 = some (0, 1) := by kernel_rfl
theorem abC : dz Tryz.prog 28 1 = some (1, 1) := by kernel_rfl
theorem abX : dz Tryz.prog 28 2 = some (2, 1) := by kernel_rfl
theorem acV : dz Tryz.prog 28 3 = some (3, 1) := by kernel_rfl
theorem acj : dz Tryz.prog 28 4 = some (4, 1) := by kernel_rfl
theorem ZR : dz Tryz.prog 28 6 = some (6, 1) := by kernel_rfl
theorem Zq : dz Tryz.prog 35 0 = some (0, 1) := by kernel_rfl
theorem acr : dz Tryz.prog 35 4 = some (4, 1) := by kernel_rfl
theorem abe : dz Tryz.prog 39 0 = some (0, 1) := by kernel_rfl
theorem aby : dz Tryz.prog 39 1 = some (1, 1) := by kernel_rfl
theorem abV : dz Tryz.prog 39 2 = some (2, 1) := by kernel_rfl
theorem acT : dz Tryz.prog 39 3 = some (3, 7) := by kernel_rfl
theorem abM : dz Tryz.prog 39 4 = some (10, 1) := by kernel_rfl
theorem ace : dz Tryz.prog 39 5 = some (11, 1) := by kernel_rfl
theorem abb : dz Tryz.prog 39 6 = some (12, 1) := by kernel_rfl
theorem acO : dz Tryz.prog 58 0 = some (0, 1) := by kernel_rfl
theorem aao : dz Tryz.prog 58 1 = some (1, 1) := by kernel_rfl
theorem aa2 : dz Tryz.prog 58 2 = some (2, 1) := by kernel_rfl
theorem acG : dz Tryz.prog 64 0 = some (0, 1) := by kernel_rfl
theorem abm : dz Tryz.prog 64 1 = some (1, 1) := by kernel_rfl
theorem ab1 : dz Tryz.prog 64 5 = some (6, 1) := by kernel_rfl
theorem aaC : dz Tryz.prog 64 6 = some (7, 1) := by kernel_rfl
theorem abr : dz Tryz.prog 66 5 = some (14, 1) := by kernel_rfl
theorem acJ : dz Tryz.prog 66 6 = some (15, 1) := by kernel_rfl
theorem akC : fJ Tryz.prog 35 = some [.iv (.g (.int .i64 0)), .iv (.g (.int .i64 0)), .iv (.g (.int .i64 0)), .iv (.g (.int .i64 0)), .iv (.g (.int .i64 0)), .iv (.g (.int .i64 0)), .iv (.g (.int .i64 0))] := by kernel_rfl
attribute [go_sem] FZ qJ qP EU NS akz acI abC abX acV acj ZR Zq acr abe aby abV acT abM ace abb acO aao aa2 acG abm ab1 aaC abr acJ akC
def opZ (kd d s : Int) : eG := ⟨kd, 1, dM, 0, 0, 0, d, s⟩
def Wv (ch af : Int) (op : eG) : d9 := ⟨ch, if 0 < af then 1 else 0, fun _ => af, 1, fun _ => op⟩
def exS : bE := ⟨7, 1, 3, ⟨1000000, 0, 0, 0, 1000000, 0, 0⟩, 500, 1, fun _ => 4, 1, fun _ => ⟨1, 2, 0, 0, 0, 0, fun _ _ => 0, 30, 0, 0, fun _ _ => 0⟩⟩
def jk : Nat -> ah
  | 0 => ⟨1, 5, 1, 0, 0, 0, 1, fun _ => Wv 7 4 (opZ 4 20 0)⟩
  | 1 => ⟨1, 6, 2, 10, 20, 0, 1, fun _ => Wv 7 0 (opZ 4 5 0)⟩
  | 2 => ⟨1, 7, 1, 0, 0, 0, 1, fun _ => Wv 7 5 (opZ 5 0 2)⟩
  | _ => ⟨1, 9, 1, 0, 0, 0, 1, fun _ => Wv 7 8 (opZ 2 0 0)⟩
def exO : ah := { jk 0 with fr := 1 }
def exF : aj := ⟨1, fun _ => exS, 0, fun _ => QO⟩
def exA : aj := vX exF (jk 2)
def rX : aj := vX exA (jk 3)
def nH : aj := vX rX (jk 0)
def nR : aj := vX nH (jk 1)
def exW (d : Int) : Nat -> aN := fun _ => ⟨1, 2, 0, 0, 0, 0, fun _ _ => 0, d, 2, 0, fun _ _ => 0⟩
def g3 (x y z : Int) (i : Nat) : Int := if i = 0 then x else if i = 1 then y else z
theorem alc : gK exS = true := by kernel_rfl
theorem alW : jZ exF (jk 2) = 0 := by kernel_rfl
theorem als : jZ exA (jk 3) = 0 := by kernel_rfl
theorem agd : stU rX 7 = 0 /\ iR rX 7 = 0 := ⟨by kernel_rfl, by kernel_rfl⟩
theorem aj7 : (Ag (rX.S 0) 2 rX.N 2) = [5,8] := by kernel_rfl
theorem alp : jZ rX (jk 0) = 0 := by kernel_rfl
theorem VN : stU nH 7 = 7 /\ iR nH 7 = 0 := ⟨by kernel_rfl, by kernel_rfl⟩
theorem ald : jZ nH (jk 1) = 0 := by kernel_rfl
theorem ajE : nS nR 7 9 = 0 /\ nS nR 7 10 = 0 := ⟨by kernel_rfl, by kernel_rfl⟩
theorem TY : jZ nR (jk 0) = 5 /\ jZ nR exO = 18 /\ iR nR 8 = 4 /\ dR nR = true := ⟨by kernel_rfl, by kernel_rfl, by kernel_rfl, by kernel_rfl⟩
theorem YU : wL rX 7 = [7,9] /\ wL nH 7 = [9] := ⟨by kernel_rfl, by kernel_rfl⟩
theorem ako : oC (gY nH 7).q 3 (gY nH 7).dn (g3 4 5 7) = true := by kernel_rfl
theorem akP : yZ (gY nH 7).n 1 (gY nH 7).f (exW 20) = true := by kernel_rfl
theorem aib : yZ (qh nR 7 9) 1 (Dq nR 7 9) (exW 20) = true := by kernel_rfl
theorem ajw : yZ (qh nR 7 10) 1 (Dq nR 7 10) (exW 5) = true := by kernel_rfl
theorem pl_25_0 : dz Tryz.prog 25 0 = some (0, 1) := by kernel_rfl
attribute [go_sem] pl_25_0
theorem al4  : aA Tryz.prog 39 [] (.tup [iw exF, .one (.lst 7 4 (fB jk))]) := by
  refine ak Tryz.func39 rfl (by rw [Tryz.ntmps39]; simp) ?_
  simp only [Tryz.ntmps39, zM, PT.tv, au, Nat.zero_add, Nat.reduceAdd]
  repeat' (first
 | ((with_reducible show AW _ _ _ _); first
 | (with_reducible first | refine aS (fun K hK => ?_) | refine aT ?_)
 | (first
 | (with_reducible first | refine aP 0 [] ?_ | refine aP 1 [0] ?_ | refine aP 2 [0,2] ?_ | refine aP 3 [0,2,3] ?_ | refine aP 4 [0,2,3,4] ?_ | refine aP 5 [0,2,3,4,5] ?_)
 | ((with_reducible refine wO (c := Code.region 6 _ true) [1,2,4,5,6,8,9,11,12,13,15,16,17] ?nd (aR [0,2,3,4,5,6] ?mn)); (case' mn => ((with_reducible refine aD ?_ ?_ ?_ ?_); (focus kernel_rfl); (focus kernel_rfl); (focus kernel_rfl))))))
 | ((first | (with_reducible refine And.intro ?_ ?_) | (with_reducible refine Need.mk ?_)); focus (exact True.intro))
 | (with_reducible refine aJ ?_)
 | ((with_reducible refine And.intro ?_ ?_); focus ((with_reducible show gV _ _ _ = true); kernel_rfl))
 | ((fail_if_success (with_reducible show AW _ _ _ _)); simp (maxSteps := 2000000) only [go_sem, reduceIte, reduceCtorEq, xA, xL, xD, xE, xM, xS, xB, Tryz.f39])
 | ((with_reducible refine hK _ ?_); clear hK K))
  all_goals (refine ⟨⟨⟨rfl, fun i o hi ho => ?_⟩, rfl⟩, fun i o hi ho => ?_⟩)
  · obtain rfl : i = 0 := (by omega)
    rcases (by omega : o = 0 \/ o = 1 \/ o = 2 \/ o = 3 \/ o = 4 \/ o = 5 \/ o = 6 \/ o = 7 \/ o = 8 \/ o = 9 \/ o = 10 \/ o = 11 \/ o = 12) with rfl | rfl | rfl | rfl | rfl | rfl | rfl | rfl | rfl | rfl | rfl | rfl | rfl
    · exact rfl
    · exact rfl
    · exact rfl
    · exact rfl
    · exact rfl
    · exact rfl
    · exact rfl
    · exact rfl
    · exact rfl
    · exact rfl
    · exact rfl
    · (refine ⟨rfl, rfl, fun a b ha hb => ?_⟩; obtain rfl : a = 0 := (by omega); obtain rfl : b = 0 := (by omega); rfl)
    · (refine ⟨rfl, rfl, fun a b ha hb => ?_⟩; obtain rfl : a = 0 := (by omega); rcases (by omega : b = 0 \/ b = 1 \/ b = 2 \/ b = 3 \/ b = 4 \/ b = 5 \/ b = 6 \/ b = 7 \/ b = 8) with rfl | rfl | rfl | rfl | rfl | rfl | rfl | rfl | rfl <;> first | rfl | exact ⟨rfl, rfl⟩)
  · rcases (by omega : i = 0 \/ i = 1 \/ i = 2 \/ i = 3) with rfl | rfl | rfl | rfl
    · rcases (by omega : o = 0 \/ o = 1 \/ o = 2 \/ o = 3 \/ o = 4 \/ o = 5 \/ o = 6) with rfl | rfl | rfl | rfl | rfl | rfl | rfl
      · exact rfl
      · exact rfl
      · exact rfl
      · exact rfl
      · exact rfl
      · exact rfl
      · (refine ⟨rfl, rfl, fun p u hp hu => ?_⟩; obtain rfl : p = 0 := (by omega); rcases (by omega : u = 0 \/ u = 1 \/ u = 2) with rfl | rfl | rfl; exact rfl; (refine ⟨rfl, rfl, fun a b ha hb => ?_⟩; obtain rfl : a = 0 := (by omega); obtain rfl : b = 0 := (by omega); rfl); (refine ⟨rfl, rfl, fun a b ha hb => ?_⟩; obtain rfl : a = 0 := (by omega); rcases (by omega : b = 0 \/ b = 1 \/ b = 2 \/ b = 3 \/ b = 4 \/ b = 5 \/ b = 6 \/ b = 7 \/ b = 8 \/ b = 9 \/ b = 10 \/ b = 11 \/ b = 12 \/ b = 13 \/ b = 14 \/ b = 15) with rfl | rfl | rfl | rfl | rfl | rfl | rfl | rfl | rfl | rfl | rfl | rfl | rfl | rfl | rfl | rfl <;> first | rfl | exact ⟨rfl, rfl⟩))
    · rcases (by omega : o = 0 \/ o = 1 \/ o = 2 \/ o = 3 \/ o = 4 \/ o = 5 \/ o = 6) with rfl | rfl | rfl | rfl | rfl | rfl | rfl
      · exact rfl
      · exact rfl
      · exact rfl
      · exact rfl
      · exact rfl
      · exact rfl
      · (refine ⟨rfl, rfl, fun p u hp hu => ?_⟩; obtain rfl : p = 0 := (by omega); rcases (by omega : u = 0 \/ u = 1 \/ u = 2) with rfl | rfl | rfl; exact rfl; exact ⟨rfl, rfl⟩; (refine ⟨rfl, rfl, fun a b ha hb => ?_⟩; obtain rfl : a = 0 := (by omega); rcases (by omega : b = 0 \/ b = 1 \/ b = 2 \/ b = 3 \/ b = 4 \/ b = 5 \/ b = 6 \/ b = 7 \/ b = 8 \/ b = 9 \/ b = 10 \/ b = 11 \/ b = 12 \/ b = 13 \/ b = 14 \/ b = 15) with rfl | rfl | rfl | rfl | rfl | rfl | rfl | rfl | rfl | rfl | rfl | rfl | rfl | rfl | rfl | rfl <;> first | rfl | exact ⟨rfl, rfl⟩))
    · rcases (by omega : o = 0 \/ o = 1 \/ o = 2 \/ o = 3 \/ o = 4 \/ o = 5 \/ o = 6) with rfl | rfl | rfl | rfl | rfl | rfl | rfl
      · exact rfl
      · exact rfl
      · exact rfl
      · exact rfl
      · exact rfl
      · exact rfl
      · (refine ⟨rfl, rfl, fun p u hp hu => ?_⟩; obtain rfl : p = 0 := (by omega); rcases (by omega : u = 0 \/ u = 1 \/ u = 2) with rfl | rfl | rfl; exact rfl; (refine ⟨rfl, rfl, fun a b ha hb => ?_⟩; obtain rfl : a = 0 := (by omega); obtain rfl : b = 0 := (by omega); rfl); (refine ⟨rfl, rfl, fun a b ha hb => ?_⟩; obtain rfl : a = 0 := (by omega); rcases (by omega : b = 0 \/ b = 1 \/ b = 2 \/ b = 3 \/ b = 4 \/ b = 5 \/ b = 6 \/ b = 7 \/ b = 8 \/ b = 9 \/ b = 10 \/ b = 11 \/ b = 12 \/ b = 13 \/ b = 14 \/ b = 15) with rfl | rfl | rfl | rfl | rfl | rfl | rfl | rfl | rfl | rfl | rfl | rfl | rfl | rfl | rfl | rfl <;> first | rfl | exact ⟨rfl, rfl⟩))
    · rcases (by omega : o = 0 \/ o = 1 \/ o = 2 \/ o = 3 \/ o = 4 \/ o = 5 \/ o = 6) with rfl | rfl | rfl | rfl | rfl | rfl | rfl
      · exact rfl
      · exact rfl
      · exact rfl
      · exact rfl
      · exact rfl
      · exact rfl
      · (refine ⟨rfl, rfl, fun p u hp hu => ?_⟩; obtain rfl : p = 0 := (by omega); rcases (by omega : u = 0 \/ u = 1 \/ u = 2) with rfl | rfl | rfl; exact rfl; (refine ⟨rfl, rfl, fun a b ha hb => ?_⟩; obtain rfl : a = 0 := (by omega); obtain rfl : b = 0 := (by omega); rfl); (refine ⟨rfl, rfl, fun a b ha hb => ?_⟩; obtain rfl : a = 0 := (by omega); rcases (by omega : b = 0 \/ b = 1 \/ b = 2 \/ b = 3 \/ b = 4 \/ b = 5 \/ b = 6 \/ b = 7 \/ b = 8 \/ b = 9 \/ b = 10 \/ b = 11 \/ b = 12 \/ b = 13 \/ b = 14 \/ b = 15) with rfl | rfl | rfl | rfl | rfl | rfl | rfl | rfl | rfl | rfl | rfl | rfl | rfl | rfl | rfl | rfl <;> first | rfl | exact ⟨rfl, rfl⟩))
theorem Cz (q : Nat) (a : Nat -> Int) (m : Nat) (G : Nat -> Int) (F : Nat -> Nat -> IV) (hq : q <= 9223372036854775807) (hm : m <= 9223372036854775807) (h : ∀ i o, i < m -> o < 1 -> (F i o).eqv (.g (.int .i64 (G i)))) : aA Tryz.prog 31 [.one (.lst 1 q (bC a)), .one (.lst 1 m F)] (.t (.one (.g (.bool (oC q m a G))))) :=
  (Xl q m a G hq hm).eqv (args' := [.one (.lst 1 q (bC a)), .one (.lst 1 m F)]) ⟨IV.bG _, ⟨rfl, rfl, h⟩, trivial⟩ (PV.bG _)
theorem FD (n m : Nat) (f g : Nat -> aN) (F : Nat -> Nat -> IV) (hn : n <= 9223372036854775807) (hm : m <= 9223372036854775807) (hf : ∀ i, i < n -> (f i).Ok) (hg : ∀ i, i < m -> (g i).Ok) (h : ∀ i o, i < m -> o < 9 -> (F i o).eqv (dL g i o)) : aA Tryz.prog 23 [.one (.lst 9 n (dL f)), .one (.lst 9 m F)] (.t (.one (.g (.bool (yZ n m f g))))) :=
  (zY n m f g hn hm hf hg).eqv (args' := [.one (.lst 9 n (dL f)), .one (.lst 9 m F)]) ⟨IV.bG _, ⟨rfl, rfl, h⟩, trivial⟩ (PV.bG _)
theorem aeu : exS.Ok := XE alc
theorem lN (i : Nat) : (jk i).Ok := by
  have hp : ∀ (kd d s af : Int), (Wv 7 af (opZ kd d s)).Ok := fun kd d s af => ⟨(show (if 0 < af then 1 else 0 : Nat) <= 9223372036854775807 from by split <;> decide), (show (1 : Nat) <= 9223372036854775807 from by decide), fun k hk => o7⟩
  rcases i with _ | _ | _ | i <;> exact ⟨(show (1 : Nat) <= 9223372036854775807 from by decide), fun j hj => hp _ _ _ _⟩
theorem aez : exO.Ok := ⟨(lN 0).n, (lN 0).p⟩
theorem UE : exF.Ok := ⟨(show (1 : Nat) <= 9223372036854775807 from by decide), fun i _ => aeu, (show (0 : Nat) <= 9223372036854775807 from by decide), fun i h => absurd h (Nat.not_lt_zero i)⟩
theorem YE : exA.Ok := CY UE (lN 2)
theorem EL : rX.Ok := CY YE (lN 3)
theorem wC : nH.Ok := CY EL (lN 0)
theorem sM : nR.Ok := CY wC (lN 1)
theorem K7 (d : Int) (i : Nat) : (exW d i).Ok := ⟨(show (0 : Nat) <= 9223372036854775807 from by decide), (show (0 : Nat) <= 9223372036854775807 from by decide)⟩
theorem adv : Dn rX 7 = [5,8] := by
  rw [(aeE agd.2).2]
  show Lc (Ag (rX.S (jc rX 7)) rX.n rX.N rX.n) = _
  have e1 : jc rX 7 = 0 := by kernel_rfl
  have e2 : rX.n = 2 := by kernel_rfl
  rw [e1, e2, aj7]
  exact (KH (List.Perm.refl _) (by decide)).symm
theorem aks : Ag (nH.S 0) 3 nH.N 3 = [8] := by kernel_rfl
theorem adB : Dn nH 7 = [8] := by
  rw [(aeE VN.2).2]
  show Lc (Ag (nH.S (jc nH 7)) nH.n nH.N nH.n) = _
  have e1 : jc nH 7 = 0 := by kernel_rfl
  have e2 : nH.n = 3 := by kernel_rfl
  rw [e1, e2, aks]
  exact (KH (List.Perm.refl _) (by decide)).symm
theorem aj8 : oC (Dn rX 7).length 2 (zL (Dn rX 7)) (g3 5 8 0) = true := by rw [adv]; decide
theorem ahU : oC (Dn nH 7).length 1 (zL (Dn nH 7)) (g3 8 0 0) = true := by rw [adB]; decide
theorem akJ : oC (wL rX 7).length 2 (zL (wL rX 7)) (g3 7 9 0) = true := by rw [YU.1]; decide
theorem ahX : oC (wL nH 7).length 1 (zL (wL nH 7)) (g3 9 0 0) = true := by rw [YU.2]; decide
theorem Ol : (Dn rX 7).length <= 9223372036854775807 /\ (Dn nH 7).length <= 9223372036854775807 /\ (wL rX 7).length <= 9223372036854775807 /\ (wL nH 7).length <= 9223372036854775807 := by rw [adv, adB, YU.1, YU.2]; decide
theorem Ky : (gY nH 7).Ok := by rw [DT VN.2]; exact wC.s _ (pq VN.2).2.1
theorem Ev (t : Int) : qh nR 7 t <= 9223372036854775807 /\ ∀ i, i < qh nR 7 t -> (Dq nR 7 t i).Ok := by
  by_cases h : nS nR 7 t = 0
  · have ha : iR nR 7 = 0 := by kernel_rfl
    have := Ep (f := nR) (ch := 7) (l := iW nR.n nR.N t) (sM.s _ (pq ha).2.1) (iW nR.n nR.N t).length
    unfold qh Dq; rw [if_pos h]; exact this
  · unfold qh; rw [if_neg h]; exact ⟨Nat.zero_le _, fun i h => absurd h (Nat.not_lt_zero i)⟩
theorem ahh : aA Tryz.prog 12 [iw exF, .agg [.g (.int .i64 (jk 2).oc), .g (.int .i64 (jk 2).nu), .g (.int .i64 (jk 2).kd), .g (.int .i64 (jk 2).fr), .g (.int .i64 (jk 2).un), .g (.int .i64 (jk 2).ca), .lst 3 (jk 2).n (eO (jk 2).p)]] (.tup [iw exA, .one (.g (.int .i64 (0)))]) := by
  have := CS exF UE (jk 2) (lN 2); rw [alW] at this; exact this
theorem afn : aA Tryz.prog 12 [iw exA, .agg [.g (.int .i64 (jk 3).oc), .g (.int .i64 (jk 3).nu), .g (.int .i64 (jk 3).kd), .g (.int .i64 (jk 3).fr), .g (.int .i64 (jk 3).un), .g (.int .i64 (jk 3).ca), .lst 3 (jk 3).n (eO (jk 3).p)]] (.tup [iw rX, .one (.g (.int .i64 (0)))]) := by
  have := CS exA YE (jk 3) (lN 3); rw [als] at this; exact this
theorem afC : aA Tryz.prog 12 [iw rX, .agg [.g (.int .i64 (jk 0).oc), .g (.int .i64 (jk 0).nu), .g (.int .i64 (jk 0).kd), .g (.int .i64 (jk 0).fr), .g (.int .i64 (jk 0).un), .g (.int .i64 (jk 0).ca), .lst 3 (jk 0).n (eO (jk 0).p)]] (.tup [iw nH, .one (.g (.int .i64 (0)))]) := by
  have := CS rX EL (jk 0) (lN 0); rw [alp] at this; exact this
theorem ag3 : aA Tryz.prog 12 [iw nH, .agg [.g (.int .i64 (jk 1).oc), .g (.int .i64 (jk 1).nu), .g (.int .i64 (jk 1).kd), .g (.int .i64 (jk 1).fr), .g (.int .i64 (jk 1).un), .g (.int .i64 (jk 1).ca), .lst 3 (jk 1).n (eO (jk 1).p)]] (.tup [iw nR, .one (.g (.int .i64 (0)))]) := by
  have := CS nH wC (jk 1) (lN 1); rw [ald] at this; exact this
theorem alV : aA Tryz.prog 12 [iw nR, .agg [.g (.int .i64 (jk 0).oc), .g (.int .i64 (jk 0).nu), .g (.int .i64 (jk 0).kd), .g (.int .i64 1), .g (.int .i64 (jk 0).un), .g (.int .i64 (jk 0).ca), .lst 3 (jk 0).n (eO (jk 0).p)]] (.tup [iw (vX nR exO), .one (.g (.int .i64 (18)))]) := by
  have := CS nR sM exO aez; rw [TY.2.1] at this; exact this
theorem amh : aA Tryz.prog 12 [iw nR, .agg [.g (.int .i64 (jk 0).oc), .g (.int .i64 (jk 0).nu), .g (.int .i64 (jk 0).kd), .g (.int .i64 (jk 0).fr), .g (.int .i64 (jk 0).un), .g (.int .i64 (jk 0).ca), .lst 3 (jk 0).n (eO (jk 0).p)]] (.tup [iw (vX nR (jk 0)), .one (.g (.int .i64 (5)))]) := by
  have := CS nR sM (jk 0) (lN 0); rw [TY.1] at this; exact this
theorem alQ : aA Tryz.prog 26 [.agg [.lst 13 nR.k (ji nR.S), .lst 7 nR.n (fB nR.N)]] (.t (.one (.g (.bool (true))))) := by
  have := uz nR sM; rw [TY.2.2.2] at this; exact this
set_option maxHeartbeats 16000000 in
theorem pX  : aA Tryz.prog 10 [] (.t (.one (.g (.bool (true))))) := by
  refine ak Tryz.func10 rfl (by rw [Tryz.ntmps10]; simp) ?_
  simp only [Tryz.ntmps10, zM, PT.tv, au, Nat.zero_add, Nat.reduceAdd]
  repeat' (first
 | ((with_reducible show eT _ _ _ _ (some 45) _ _ _ _ _ _ _ _); (refine dh (k := 12) mG (ahh) ?_ ?_))
 | ((with_reducible show eT _ _ _ _ (some 53) _ _ _ _ _ _ _ _); (refine dh (k := 12) mG (afn) ?_ ?_))
 | ((with_reducible show aW _ _ (some 58) _ _ _ _ _ _ _); (refine aF (k := 29) EU (adO rX EL 7) ?_ ?_))
 | ((with_reducible show aW _ _ (some 64) _ _ _ _ _ _ _); (refine aF (k := 13) FZ (ado rX EL 7) ?_ ?_))
 | ((with_reducible show eT _ _ _ _ (some 72) _ _ _ _ _ _ _ _); (refine dh (k := 12) mG (afC) ?_ ?_))
 | ((with_reducible show aW _ _ (some 77) _ _ _ _ _ _ _); (refine aF (k := 29) EU (adO nH wC 7) ?_ ?_))
 | ((with_reducible show aW _ _ (some 83) _ _ _ _ _ _ _); (refine aF (k := 13) FZ (ado nH wC 7) ?_ ?_))
 | ((with_reducible show aW _ _ (some 88) _ _ _ _ _ _ _); (refine aF (k := 21) qP (IQ nH wC 7) ?_ ?_))
 | ((with_reducible show eT _ _ _ _ (some 96) _ _ _ _ _ _ _ _); (refine dh (k := 12) mG (ag3) ?_ ?_))
 | ((with_reducible show aW _ _ (some 101) _ _ _ _ _ _ _); (refine aF (k := 20) qJ (Jj nR sM 7 9) ?_ ?_))
 | ((with_reducible show aW _ _ (some 106) _ _ _ _ _ _ _); (refine aF (k := 20) qJ (Jj nR sM 7 10) ?_ ?_))
 | ((with_reducible show eT _ _ _ _ (some 114) _ _ _ _ _ _ _ _); (refine dh (k := 12) mG (amh) ?_ ?_))
 | ((with_reducible show aW _ _ (some 124) _ _ _ _ _ _ _); (refine aF (k := 12) mG (alV) ?_ ?_))
 | ((with_reducible show aW _ _ (some 129) _ _ _ _ _ _ _); (refine aF (k := 21) qP (IQ nR sM 8) ?_ ?_))
 | ((with_reducible show bM _ _ _ (some 194) _ _ _ _ _ _); (refine aO (k := 31) qB (fun hg => Cz (Dn rX 7).length (zL (Dn rX 7)) 2 (g3 5 8 0) _ Ol.1 (by omega) (fun i o hi ho => by obtain rfl : o = 0 := (by omega); rcases (by omega : i = 0 \/ i = 1) with rfl | rfl <;> rfl)) ?_ ?_))
 | ((with_reducible show bM _ _ _ (some 199) _ _ _ _ _ _); (refine aO (k := 31) qB (fun hg => Cz (wL rX 7).length (zL (wL rX 7)) 2 (g3 7 9 0) _ Ol.2.2.1 (by omega) (fun i o hi ho => by obtain rfl : o = 0 := (by omega); rcases (by omega : i = 0 \/ i = 1) with rfl | rfl <;> rfl)) ?_ ?_))
 | ((with_reducible show bM _ _ _ (some 208) _ _ _ _ _ _); (refine aO (k := 31) qB (fun hg => Cz (Dn nH 7).length (zL (Dn nH 7)) 1 (g3 8 0 0) _ Ol.2.1 (by omega) (fun i o hi ho => by obtain rfl : i = 0 := (by omega); obtain rfl : o = 0 := (by omega); rfl)) ?_ ?_))
 | ((with_reducible show bM _ _ _ (some 213) _ _ _ _ _ _); (refine aO (k := 31) qB (fun hg => Cz (wL nH 7).length (zL (wL nH 7)) 1 (g3 9 0 0) _ Ol.2.2.2 (by omega) (fun i o hi ho => by obtain rfl : i = 0 := (by omega); obtain rfl : o = 0 := (by omega); rfl)) ?_ ?_))
 | ((with_reducible show bM _ _ _ (some 219) _ _ _ _ _ _); (refine aO (k := 31) qB (fun hg => Cz (gY nH 7).q (gY nH 7).dn 3 (g3 4 5 7) _ Ky.q (by omega) (fun i o hi ho => by obtain rfl : o = 0 := (by omega); rcases (by omega : i = 0 \/ i = 1 \/ i = 2) with rfl | rfl | rfl <;> rfl)) ?_ ?_))
 | ((with_reducible show bM _ _ _ (some 230) _ _ _ _ _ _); (refine aO (k := 23) oJ (fun hg => FD (gY nH 7).n 1 (gY nH 7).f (exW 20) _ Ky.n (by omega) Ky.f (fun i _ => K7 20 i) (fun i b hi ho => by obtain rfl : i = 0 := (by omega); rcases (by omega : b = 0 \/ b = 1 \/ b = 2 \/ b = 3 \/ b = 4 \/ b = 5 \/ b = 6 \/ b = 7 \/ b = 8) with rfl | rfl | rfl | rfl | rfl | rfl | rfl | rfl | rfl <;> first | rfl | exact ⟨rfl, rfl⟩)) ?_ ?_))
 | ((with_reducible show bM _ _ _ (some 236) _ _ _ _ _ _); (refine aO (k := 23) oJ (fun hg => FD (qh nR 7 9) 1 (Dq nR 7 9) (exW 20) _ (Ev 9).1 (by omega) (Ev 9).2 (fun i _ => K7 20 i) (fun i b hi ho => by obtain rfl : i = 0 := (by omega); rcases (by omega : b = 0 \/ b = 1 \/ b = 2 \/ b = 3 \/ b = 4 \/ b = 5 \/ b = 6 \/ b = 7 \/ b = 8) with rfl | rfl | rfl | rfl | rfl | rfl | rfl | rfl | rfl <;> first | rfl | exact ⟨rfl, rfl⟩)) ?_ ?_))
 | ((with_reducible show bM _ _ _ (some 242) _ _ _ _ _ _); (refine aO (k := 23) oJ (fun hg => FD (qh nR 7 10) 1 (Dq nR 7 10) (exW 5) _ (Ev 10).1 (by omega) (Ev 10).2 (fun i _ => K7 5 i) (fun i b hi ho => by obtain rfl : i = 0 := (by omega); rcases (by omega : b = 0 \/ b = 1 \/ b = 2 \/ b = 3 \/ b = 4 \/ b = 5 \/ b = 6 \/ b = 7 \/ b = 8) with rfl | rfl | rfl | rfl | rfl | rfl | rfl | rfl | rfl <;> first | rfl | exact ⟨rfl, rfl⟩)) ?_ ?_))
 | ((with_reducible show bM _ _ _ (some 246) _ _ _ _ _ _); (refine aO (k := 26) j3 (fun hg => alQ) ?_ ?_))
 | ((with_reducible show AW _ _ _ _); first
 | (with_reducible first | refine aS (fun K hK => ?_) | refine aT ?_)
 | (first
 | (with_reducible first | refine aP 0 [] ?_ | refine aP 1 [] ?_)
 | ((with_reducible refine aR (c := Code.region 2 _ true) [1,2] ?_); (with_reducible refine aD ?_ ?_ ?_ ?_); (focus kernel_rfl); (focus kernel_rfl); (focus kernel_rfl))
 | ((with_reducible refine aR (c := Code.region 3 _ true) [2,3,4] ?_); (with_reducible refine aD ?_ ?_ ?_ ?_); (focus kernel_rfl); (focus kernel_rfl); (focus kernel_rfl))
 | (with_reducible first | refine aP 4 [2,3,4,5] ?_ | refine aP 5 [2,3,4,5,6,7,8] ?_)
 | ((with_reducible refine aR (c := Code.region 6 _ true) [2,3,4,5,6,7,8,9,10] ?_); (with_reducible refine aD ?_ ?_ ?_ ?_); (focus kernel_rfl); (focus kernel_rfl); (focus kernel_rfl))
 | (with_reducible first | refine aP 7 [2,4,5,6,7,8,9,10,11,12] ?_ | refine aP 8 [2,4,5,6,7,8,9,10,11,12,13,14,15] ?_ | refine aP 9 [2,4,5,6,7,8,9,10,11,12,13,14,15,16,17] ?_)
 | ((with_reducible refine aR (c := Code.region 10 _ true) [2,4,5,6,7,8,9,10,11,12,13,14,15,16,17,18,19] ?_); (with_reducible refine aD ?_ ?_ ?_ ?_); (focus kernel_rfl); (focus kernel_rfl); (focus kernel_rfl))
 | (with_reducible first | refine aP 11 [2,4,5,6,7,8,9,10,12,13,14,15,16,17,18,19,20,21] ?_ | refine aP 12 [2,4,5,6,7,8,9,10,12,13,14,15,16,17,18,19,20,21,22,23] ?_)
 | ((with_reducible refine aR (c := Code.region 13 _ true) [2,4,5,6,7,8,9,10,12,13,14,15,16,17,18,19,20,21,22,23,24,25] ?_); (with_reducible refine aD ?_ ?_ ?_ ?_); (focus kernel_rfl); (focus kernel_rfl); (focus kernel_rfl))
 | (with_reducible first | refine aP 14 [2,4,5,6,7,8,9,10,12,13,14,15,16,17,18,19,20,21,22,23,24,25,27] ?_ | refine aP 15 [4,5,6,7,8,9,10,12,13,14,15,16,17,18,19,20,21,22,23,24,25,27,28] ?_ | refine aP 16 [4,5,6,7,8,9,10,12,13,14,15,16,17,18,19,20,21,22,23,24,25,27,28] ?_ | refine aP 17 [4,5,6,7,8,9,10,12,13,14,15,16,17,18,19,20,21,22,23,24,25,27,30] ?_ | refine aP 18 [4,5,6,7,8,9,10,12,13,14,15,16,17,18,19,20,21,22,23,24,25,27,30,32] ?_ | refine aP 19 [6,7,9,13,14,16,18,20,22,24,33] ?_ | refine aP 20 [18,20,22,24,33] ?_ | refine aP 21 [18,20,22,24,33,34] ?_ | refine aP 22 [18,20,22,24,33,34,35] ?_ | refine aP 23 [18,20,22,24,33,34,35] ?_)))
 | ((first | (with_reducible refine And.intro ?_ ?_) | (with_reducible refine Need.mk ?_)); focus (first | exact True.intro | omega | (intro _; exact True.intro)))
 | (with_reducible refine aJ ?_)
 | ((with_reducible refine And.intro ?_ ?_); focus ((with_reducible show gV _ _ _ = true); kernel_rfl))
 | ((with_reducible show aW _ _ _ _ _ _ _ _ _ _); first
 | (refine aF (k := 39) NS (al4) ?_ ?_))
 | ((fail_if_success (with_reducible show AW _ _ _ _)); simp (maxSteps := 2000000) only [go_sem, reduceIte, reduceCtorEq, xA, xL, xD, xE, xM, xS, xB, Tryz.f10, bT, bX, bQ, bW, bP, bS, bY, bR, bU, bV, bg, bB, bn, bC, Int.reduceToNat, Int.cast_ofNat_Int, Bool.and_self, Int.natCast_zero, Int.ofNat_zero, agd.1, agd.2, VN.1, VN.2, ajE.1, ajE.2, TY.2.2.1, TY.2.2.2, ako, akP, aib, ajw, aj8, ahU, akJ, ahX])
 | ((with_reducible refine hK _ ?_); clear hK K))
end Go.Proofs.YtcfechepbamhkaaGreat
set_option maxRecDepth 100000
set_option maxHeartbeats 4000000
namespace Go.Proofs.YtcfechepbamhkaaGreat
open Go.RowKit Go.Sea
open Nat renaming reduceAdd -> xA, reduceLT -> xL, reduceLeDiff -> xD, reduceEqDiff -> xE, reduceMul -> xM, reduceSub -> xS, reduceBEq -> xB
theorem kZ : aK Tryz.prog 10 = true := by kernel_rfl
theorem iI : aK Tryz.prog 11 = true := by kernel_rfl
theorem ES : aK Tryz.prog 17 = true := by kernel_rfl
theorem zH : aK Tryz.prog 25 = true := by kernel_rfl
theorem abj : aK Tryz.prog 30 = true := by kernel_rfl
theorem aaN : aK Tryz.prog 32 = true := by kernel_rfl
theorem aaB : aK Tryz.prog 33 = true := by kernel_rfl
theorem abH : aK Tryz.prog 34 = true := by kernel_rfl
theorem aaj : aK Tryz.prog 35 = true := by kernel_rfl
theorem aah : aK Tryz.prog 36 = true := by kernel_rfl
theorem abE : aK Tryz.prog 37 = true := by kernel_rfl
attribute [go_sem] kZ iI ES zH abj aaN aaB abH aaj aah abE
theorem afV (f : aj) (hf : f.Ok) (ch t : Int) : qh f ch t <= 9223372036854775807 /\ ∀ i, i < qh f ch t -> (Dq f ch t i).Ok := by
  by_cases h : nS f ch t = 0
  · have ha : iR f ch = 0 := by
      unfold nS at h; split at h
      · cases h
      · exact h
    have := Ep (f := f) (ch := ch) (l := iW f.n f.N t) (hf.s _ (pq ha).2.1) (iW f.n f.N t).length
    unfold qh Dq; rw [if_pos h]; exact this
  · unfold qh; rw [if_neg h]; exact ⟨Nat.zero_le _, fun i h => absurd h (Nat.not_lt_zero i)⟩
theorem afe (f : aj) (hf : f.Ok) (ch : Int) : (gY f ch).Ok := by
  by_cases h : iR f ch = 0
  · rw [DT h]; exact hf.s _ (pq h).2.1
  · rw [ad4 h]; exact Gw
theorem Ls (f : aj) (hf : f.Ok) (g : aj) (hgO : g.Ok) : (mg f g).Ok := by
  unfold mg; split
  · exact LQ hf hgO _ (Nat.le_refl _)
  · exact FP
theorem ajG (f : aj) (hf : f.Ok) : aA Tryz.prog 17 [iw f, iw f] (.t (.one (.g (.bool (true))))) := by
  have := adq f hf f hf; rw [UC] at this; exact this
theorem aik (n : Nat) (f : Nat -> aN) (hn : n <= 9223372036854775807) (hf : ∀ i, i < n -> (f i).Ok) : aA Tryz.prog 23 [.one (.lst 9 n (dL f)), .one (.lst 9 n (dL f))] (.t (.one (.g (.bool (true))))) := by
  have := zY n n f f hn hn hf hf; rw [Lf] at this; exact this
end Go.Proofs.YtcfechepbamhkaaGreat
set_option maxRecDepth 100000
set_option maxHeartbeats 4000000
namespace Go.Proofs.YtcfechepbamhkaaGreat
open Go.RowKit Go.Sea
open Nat renaming reduceAdd -> xA, reduceLT -> xL, reduceLeDiff -> xD, reduceEqDiff -> xE, reduceMul -> xM, reduceSub -> xS, reduceBEq -> xB
theorem akf (f : aj) (hf : f.Ok) (h : Jy f oo = true) : aA Tryz.prog 17 [iw f, .agg [.g (.slice none 0 0), .g (.slice none 0 0)]] (.t (.one (.g (.bool (true))))) := by
  have := (adq f hf oo FP).eqv (args' := [iw f, .agg [.g (.slice none 0 0), .g (.slice none 0 0)]]) ⟨PT.bG _, ⟨⟨rfl, rfl⟩, ⟨rfl, rfl⟩, trivial⟩, trivial⟩ (PV.bG _)
  rw [h] at this; exact this
end Go.Proofs.YtcfechepbamhkaaGreat
set_option maxRecDepth 100000
set_option maxHeartbeats 4000000
namespace Go.Proofs.YtcfechepbamhkaaGreat
open Go.RowKit Go.Sea
open Nat renaming reduceAdd -> xA, reduceLT -> xL, reduceLeDiff -> xD, reduceEqDiff -> xE, reduceMul -> xM, reduceSub -> xS, reduceBEq -> xB
def nZ (x : Int) (L : List aN) : List aN := L.filter fun g => decide (g.id = x)
theorem NY {L : List aN} {f : aN} {x : Int} (h : f.id ≠ x) : nZ x (lH L f) = nZ x L := by
  unfold nZ lH
  rw [List.filter_append, List.filter_cons_of_neg (by simpa using h), List.filter_filter, List.filter_filter]
  rcases Int.lt_or_gt_of_ne h with g | g
  · rw [List.filter_eq_nil_iff.2 (fun a _ => by simp only [Bool.and_eq_true, decide_eq_true_eq]; omega), List.nil_append]
    refine List.filter_congr fun a _ => ?_
    rw [Bool.eq_iff_iff]; simp only [Bool.and_eq_true, decide_eq_true_eq]; omega
  · rw [List.filter_eq_nil_iff (l := L) (p := fun a => decide (a.id = x) && decide (f.id < a.id)) |>.2 (fun a _ => by simp only [Bool.and_eq_true, decide_eq_true_eq]; omega), List.append_nil]
    refine List.filter_congr fun a _ => ?_
    rw [Bool.eq_iff_iff]; simp only [Bool.and_eq_true, decide_eq_true_eq]; omega
theorem M7 {L : List aN} {k x : Int} (h : k ≠ x) : nZ x (mQ L k) = nZ x L := by
  unfold nZ mQ
  rw [List.filter_filter]
  refine List.filter_congr fun a _ => ?_
  rw [Bool.eq_iff_iff]; simp only [Bool.and_eq_true, decide_eq_true_eq]; omega
theorem aeO {L : List aN} {o : eG} (ho : u7 o = true) {x : Int} (h : o.id ≠ x) : nZ x (ni L o).2 = nZ x L := by
  unfold ni
  split
  · rename_i h1
    have hid := Xr ho h1
    split
    · rfl
    · split
      · rfl
      · exact NY (by rw [hid]; exact h)
  · split
    · rfl
    · rename_i f hf
      have hfi := (jF hf).2
      split
      · exact M7 h
      · split
        · exact (NY (by rw [Eo, hfi]; exact h)).trans (M7 h)
        · rfl
theorem Ot {L : List aN} {o : Nat -> eG} {k : Nat} (ho : ∀ i, i < k -> u7 (o i) = true) {x : Int} (h : ∀ i, i < k -> (o i).id ≠ x) : ∀ i, i <= k -> nZ x (jf L o i) = nZ x L
  | 0, _ => rfl
  | i + 1, hi => (aeO (ho i (by omega)) (h i (by omega))).trans (Ot ho h i (by omega))
theorem abJ (L : List aN) : LF (fun j => L.getD j dM) L.length = L := by
  unfold LF
  refine List.ext_getElem (by simp) fun i h1 h2 => ?_
  simp [List.getD, h2]
theorem aes {n : Nat} {f : Nat -> aN} {k : Nat} {o : Nat -> eG} (h0 : yL n f k o = 0) {x : Int} (h : ∀ i, i < k -> (o i).id ≠ x) : nZ x (LF (Yv n f k o) (Dp n f k o)) = nZ x (LF f n) := by
  have hv : Ah k o = true := by
    unfold yL at h0
    split at h0
    · rename_i hv; unfold Lr at hv; simp only [Bool.and_eq_true] at hv; exact hv.2
    · cases h0
  rw [(Db h0).2]
  show nZ x (LF (fun j => (jf (LF f n) o k).getD j dM) _) = _
  rw [abJ]
  exact Ot (of_decide_eq_true hv).2 h k (Nat.le_refl k)
def tcB (N : ah) (ch x : Int) : Prop := ∃ k, k < N.n /\ (N.p k).ch = ch /\ ∃ j, j < (N.p k).k /\ ((N.p k).o j).id = x
theorem aiP {N : ah} {ch x : Int} {k : Nat} (hk : N.n <= k) (h : ∀ u, u < k -> ∀ j, j < (N.p u).k -> ¬ ((N.p u).ch = ch /\ ((N.p u).o j).id = x)) : ¬ tcB N ch x := fun ⟨u, h1, h2, j, h3, h4⟩ => h u (by omega) j h3 ⟨h2, h4⟩
theorem afE {x : Nat × (Nat -> aN)} {N : ah} {ch id : Int} (h : ¬ tcB N ch id) : nZ id (LF (pV x N ch).2 (pV x N ch).1) = nZ id (LF x.2 x.1) := by
  unfold pV
  split
  · rename_i hq
    have hJ : iV N ch < N.n := of_decide_eq_true hq.1
    have hch : (N.p (iV N ch)).ch = ch := of_decide_eq_true ((gZ (b := fun i => decide ((N.p i).ch = ch)) (k := N.n)).2 hJ)
    exact aes hq.2 fun i hi e => h ⟨iV N ch, hJ, hch, i, hi, e⟩
  · rfl
theorem adM {f : aj} {ch id : Int} {l : List Int} : ∀ i, (∀ j, j < i -> ¬ tcB (f.N (zL l j).toNat) ch id) -> nZ id (LF (uF f ch l i).2 (uF f ch l i).1) = nZ id (LF (f.S (jc f ch)).f (f.S (jc f ch)).n)
  | 0, _ => rfl
  | i + 1, h => by
    show nZ id (LF (pV (uF f ch l i) _ ch).2 (pV (uF f ch l i) _ ch).1) = _
    rw [afE (h i (Nat.lt_succ_self i))]
    exact adM i fun j hj => h j (by omega)
theorem NK {f : aj} {ch t : Int} (h : nS f ch t = 0) : iR f ch = 0 /\ KX f.n f.N t = 0 /\ 0 <= t /\ t <= 10000000 := by
  unfold nS at h
  split at h
  · cases h
  · rename_i g
    have g := not_or.1 g
    have ht := Classical.byContradiction g.2
    exact ⟨h, by rw [CP (rJ g.1), if_pos ht], ht⟩
theorem Sr {f : aj} {ch t : Int} (h : nS f ch t ≠ 0) : qh f ch t = 0 /\ ((iR f ch == nS f ch t) = true \/ (iR f ch == nS f ch t) = false /\ KX f.n f.N t = 1) := by
  refine ⟨by unfold qh; rw [if_neg h], ?_⟩
  by_cases h1 : iR f ch = 1
  · left
    have : nS f ch t = 1 := by unfold nS; rw [if_pos (Or.inl h1)]
    rw [this, h1]; rfl
  · by_cases ht : 0 <= t /\ t <= 10000000
    · left
      have : nS f ch t = iR f ch := by unfold nS; rw [if_neg (by rintro (q | q); exact h1 q; exact q ht)]
      rw [this]; simp
    · have h2 : KX f.n f.N t = 1 := by rw [CP (rJ h1), if_neg ht]
      cases e : iR f ch == nS f ch t
      · exact Or.inr ⟨rfl, h2⟩
      · exact Or.inl rfl
theorem NT {f : aj} {ch : Int} {l : List Int} (h : (f.S (jc f ch)).n <= 300) : ∀ i, (uF f ch l i).1 <= 300
  | 0 => h
  | i + 1 => by
    have ih := NT (f := f) (ch := ch) (l := l) h i
    show (pV _ _ _).1 <= 300
    unfold pV
    split
    · rename_i q
      have hg := Db q.2
      show Dp _ _ _ _ <= 300
      rw [hg.2]; exact hg.1.n
    · exact ih
theorem acA {f : aj} {ch t : Int} (h : nS f ch t = 0) (h3 : (f.S (jc f ch)).n <= 300) : qh f ch t <= 300 := by
  unfold qh; rw [if_pos h]; exact NT h3 _
theorem ac4 {f : aj} {ch t : Int} (h : nS f ch t = 0) {id : Int} (hn : ∀ j, j < (iW f.n f.N t).length -> ¬ tcB (f.N (zL (iW f.n f.N t) j).toNat) ch id) : nZ id (LF (Dq f ch t) (qh f ch t)) = nZ id (LF (gY f ch).f (gY f ch).n) := by
  have ha := (NK h).1
  rw [DT ha]
  unfold qh Dq
  rw [if_pos h]
  exact adM _ hn
theorem aac {f : aj} {ch t : Int} (h : nS f ch t = 0) (h0 : (iW f.n f.N t).length = 0) : qh f ch t = (gY f ch).n /\ Dq f ch t = (gY f ch).f := by
  have ha := (NK h).1
  rw [DT ha]
  unfold qh Dq
  rw [if_pos h, h0]; exact ⟨rfl, rfl⟩
theorem adz {f : Nat -> aN} {x : Int} {v : Nat} : nZ x (LF f (v + 1)) = if (f v).id = x then nZ x (LF f v) ++ [f v] else nZ x (LF f v) := by
  unfold nZ
  rw [afN, List.filter_append]
  by_cases h : (f v).id = x
  · rw [if_pos h, List.filter_cons_of_pos (by simpa using h)]; rfl
  · rw [if_neg h, List.filter_cons_of_neg (by simpa using h)]; simp
theorem BQ (f : Nat -> aN) (x : Int) : nZ x (LF f 0) = [] := rfl
theorem L6 (f : Nat -> aN) (x : Int) (v : Nat) : (nZ x (LF f v)).length <= v := by
  have := List.length_filter_le (fun g => decide (g.id = x)) (LF f v)
  rw [gN] at this; exact this
theorem ajK {f : Nat -> aN} {x : Int} {v : Nat} (h : (f v).id = x) : nZ x (LF f (v + 1)) = nZ x (LF f v) ++ [f v] := by rw [adz, if_pos h]
theorem akh {f : Nat -> aN} {x : Int} {v : Nat} (h : (f v).id ≠ x) : nZ x (LF f (v + 1)) = nZ x (LF f v) := by rw [adz, if_neg h]
theorem agf {f : Nat -> aN} {n : Nat} (hf : ∀ i, i < n -> (f i).Ok) (x : Int) : ∀ i, i < (nZ x (LF f n)).length -> ((nZ x (LF f n)).getD i dM).Ok := fun i hi => by
  have hm : (nZ x (LF f n)).getD i dM ∈ nZ x (LF f n) := uE hi
  obtain ⟨j, hj, e⟩ := BK.1 (List.mem_filter.1 hm).1
  rw [<- e]; exact hf j hj
theorem akF (L : List aN) (hl : L.length <= 9223372036854775807) (hok : ∀ i, i < L.length -> (L.getD i dM).Ok) (F G : Nat -> Nat -> IV) (hF : ∀ i o, i < L.length -> o < 9 -> (F i o).eqv (dL (fun i => L.getD i dM) i o)) (hG : ∀ i o, i < L.length -> o < 9 -> (G i o).eqv (dL (fun i => L.getD i dM) i o)) : aA Tryz.prog 23 [.one (.lst 9 L.length F), .one (.lst 9 L.length G)] (.t (.one (.g (.bool (true))))) :=
  (aik L.length (fun i => L.getD i dM) hl hok).eqv (args' := [.one (.lst 9 L.length F), .one (.lst 9 L.length G)]) ⟨⟨rfl, rfl, hF⟩, ⟨rfl, rfl, hG⟩, trivial⟩ (PV.bG _)
theorem alP (f : aj) (hf : f.Ok) (ch t id : Int) (h1 : oD f = false) : aA Tryz.prog 5 [iw f, .one (.g (.int .i64 ch)), .one (.g (.int .i64 t)), .one (.g (.int .i64 id))] (.t (.one (.g (.bool (true))))) := by
  refine ak Tryz.func5 rfl (by rw [Tryz.ntmps5]; simp) ?_
  simp only [Tryz.ntmps5, zM, PT.tv, au, Nat.zero_add, Nat.reduceAdd]
  repeat' (first
 | ((with_reducible show aW _ _ (some 24) _ _ _ _ _ _ _); (refine aF (k := 10) kZ (pX) ?_ ?_))
 | ((with_reducible show aW _ _ (some 26) _ _ _ _ _ _ _); (refine aF (k := 11) iI (kM f hf) ?_ ?_))
 | ((with_reducible show AW _ _ _ _); first
 | (with_reducible first | refine aS (fun K hK => ?_) | refine aT ?_ | refine aC ?_)
 | ((with_reducible first | refine aP 0 [0,1,2,3] ?_ | refine aP 1 [1,2,3,4] ?_ | refine aP 2 [1,2,3,4,9] ?_ | refine aP 3 [9] ?_)))
 | (((with_reducible refine Need.mk ?_)); focus (exact True.intro))
 | (with_reducible refine aJ ?_)
 | ((with_reducible show bL _ _ _ _ _ _); first
 | ((with_reducible refine aM ?_ ?_) <;> (intro hc; (try simp only [zB, zC, reduceCtorEq] at hc); (try (exfalso; contradiction)))))
 | ((fail_if_success (with_reducible show AW _ _ _ _)); simp (maxSteps := 2000000) only [go_sem, reduceIte, reduceCtorEq, xA, xL, xD, xE, xM, xS, xB, Tryz.f5, bT, bX, bQ, bW, bP, bS, bY, bR, bU, bV, bg, bB, bn, bC, Bool.and_self, h1])
 | ((with_reducible refine hK _ ?_); clear hK K))
theorem al9 (f : aj) (hf : f.Ok) (ch t id : Int) (h1 : oD f = true) (h0 : nS f ch t ≠ 0) (h2 : (iR f ch == nS f ch t) = true) : aA Tryz.prog 5 [iw f, .one (.g (.int .i64 ch)), .one (.g (.int .i64 t)), .one (.g (.int .i64 id))] (.t (.one (.g (.bool (true))))) := by
  have hn0 : (nS f ch t != 0) = true := bne_iff_ne.2 h0
  have hz := (Sr h0).1
  refine ak Tryz.func5 rfl (by rw [Tryz.ntmps5]; simp) ?_
  simp only [Tryz.ntmps5, zM, PT.tv, au, Nat.zero_add, Nat.reduceAdd]
  repeat' (first
 | ((with_reducible show aW _ _ (some 24) _ _ _ _ _ _ _); (refine aF (k := 10) kZ (pX) ?_ ?_))
 | ((with_reducible show aW _ _ (some 26) _ _ _ _ _ _ _); (refine aF (k := 11) iI (kM f hf) ?_ ?_))
 | ((with_reducible show aW _ _ (some 33) _ _ _ _ _ _ _); (refine aF (k := 20) qJ (Jj f hf ch t) ?_ ?_))
 | ((with_reducible show aW _ _ (some 39) _ _ _ _ _ _ _); (refine aF (k := 21) qP (IQ f hf ch) ?_ ?_))
 | ((with_reducible show aW _ _ (some 46) _ _ _ _ _ _ _); (refine aF (k := 22) sZ (MQ f.n f.N hf.n hf.nn t) ?_ ?_))
 | ((with_reducible show AW _ _ _ _); first
 | (with_reducible first | refine aS (fun K hK => ?_) | refine aI ?_ | refine aT ?_ | refine aC ?_)
 | ((with_reducible first | refine aP 0 [0,1,2,3] ?_ | refine aP 1 [1,2,3,4] ?_ | refine aP 2 [1,2,3,4,9] ?_ | refine aP 4 [1,2,3,4,9] ?_ | refine aP 5 [1,2,3,4,9,10,11] ?_ | refine aP 6 [1,2,3,4,9,10,11,12,13] ?_ | refine aP 7 [1,3,4,9,10,11,12,13,14,15] ?_ | refine aP 8 [9,10,11,13,15] ?_)))
 | (((with_reducible refine Need.mk ?_)); focus (exact True.intro))
 | (with_reducible refine aJ ?_)
 | ((with_reducible show bL _ _ _ _ _ _); first
 | ((with_reducible refine aM ?_ ?_) <;> (intro hc; (try simp only [zB, zC, reduceCtorEq] at hc); (try (exfalso; contradiction)))))
 | ((fail_if_success (with_reducible show AW _ _ _ _)); simp (maxSteps := 2000000) only [go_sem, reduceIte, reduceCtorEq, xA, xL, xD, xE, xM, xS, xB, Tryz.f5, bT, bX, bQ, bW, bP, bS, bY, bR, bU, bV, bg, bB, bn, bC, Bool.and_self, h1, h2, hn0, hz])
 | ((with_reducible refine hK _ ?_); clear hK K))
  all_goals rfl
theorem alB (f : aj) (hf : f.Ok) (ch t id : Int) (h1 : oD f = true) (h0 : nS f ch t ≠ 0) (h2 : (iR f ch == nS f ch t) = false /\ KX f.n f.N t = 1) : aA Tryz.prog 5 [iw f, .one (.g (.int .i64 ch)), .one (.g (.int .i64 t)), .one (.g (.int .i64 id))] (.t (.one (.g (.bool (true))))) := by
  have hn0 : (nS f ch t != 0) = true := bne_iff_ne.2 h0
  have hz := (Sr h0).1
  refine ak Tryz.func5 rfl (by rw [Tryz.ntmps5]; simp) ?_
  simp only [Tryz.ntmps5, zM, PT.tv, au, Nat.zero_add, Nat.reduceAdd]
  repeat' (first
 | ((with_reducible show aW _ _ (some 24) _ _ _ _ _ _ _); (refine aF (k := 10) kZ (pX) ?_ ?_))
 | ((with_reducible show aW _ _ (some 26) _ _ _ _ _ _ _); (refine aF (k := 11) iI (kM f hf) ?_ ?_))
 | ((with_reducible show aW _ _ (some 33) _ _ _ _ _ _ _); (refine aF (k := 20) qJ (Jj f hf ch t) ?_ ?_))
 | ((with_reducible show aW _ _ (some 39) _ _ _ _ _ _ _); (refine aF (k := 21) qP (IQ f hf ch) ?_ ?_))
 | ((with_reducible show aW _ _ (some 46) _ _ _ _ _ _ _); (refine aF (k := 22) sZ (MQ f.n f.N hf.n hf.nn t) ?_ ?_))
 | ((with_reducible show AW _ _ _ _); first
 | (with_reducible first | refine aS (fun K hK => ?_) | refine aI ?_ | refine aT ?_ | refine aC ?_)
 | ((with_reducible first | refine aP 0 [0,1,2,3] ?_ | refine aP 1 [1,2,3,4] ?_ | refine aP 2 [1,2,3,4,9] ?_ | refine aP 4 [1,2,3,4,9] ?_ | refine aP 5 [1,2,3,4,9,10,11] ?_ | refine aP 6 [1,2,3,4,9,10,11,12,13] ?_ | refine aP 7 [1,3,4,9,10,11,12,13,14,15] ?_ | refine aP 8 [9,10,11,13,15] ?_)))
 | (((with_reducible refine Need.mk ?_)); focus (exact True.intro))
 | (with_reducible refine aJ ?_)
 | ((with_reducible show bL _ _ _ _ _ _); first
 | ((with_reducible refine aM ?_ ?_) <;> (intro hc; (try simp only [zB, zC, reduceCtorEq] at hc); (try (exfalso; contradiction)))))
 | ((fail_if_success (with_reducible show AW _ _ _ _)); simp (maxSteps := 2000000) only [go_sem, reduceIte, reduceCtorEq, xA, xL, xD, xE, xM, xS, xB, Tryz.f5, bT, bX, bQ, bW, bP, bS, bY, bR, bU, bV, bg, bB, bn, bC, Bool.and_self, h1, h2.1, h2.2, hn0, hz])
 | ((with_reducible refine hK _ ?_); clear hK K))
  all_goals rfl
theorem alD (f : aj) (hf : f.Ok) (ch t id : Int) (h1 : oD f = true) (h0 : nS f ch t = 0) : aA Tryz.prog 5 [iw f, .one (.g (.int .i64 ch)), .one (.g (.int .i64 t)), .one (.g (.int .i64 id))] (.t (.one (.g (.bool (true))))) := by
  have hn := hf.n
  have h2 := (NK h0).1
  have h3 := (NK h0).2.1
  have hok := afV f hf ch t
  have hso := afe f hf ch
  have hn200 := (lW (iE (rJ (f := f) (ch := ch) (by omega))).2.2).1
  have hal := Ob f.n f.N t
  have hlo := L6 (gY f ch).f id (gY f ch).n
  have hsn := hso.n
  have hs3 : (f.S (jc f ch)).n <= 300 := Cc ((iE (rJ (f := f) (ch := ch) (by omega))).2.1 _ (pq h2).2.1).1
  have hn3 := acA h0 hs3
  have hsv : (gY f ch).n <= 300 := by rw [DT h2]; exact Cc ((iE (rJ (f := f) (ch := ch) (by omega))).2.1 _ (pq h2).2.1).1
  have mk1 : True := trivial
  have hlt : True := trivial
  have hsm : True := trivial
  have hzq : True := trivial
  refine ak Tryz.func5 rfl (by rw [Tryz.ntmps5]; simp) ?_
  simp only [Tryz.ntmps5, zM, PT.tv, au, Nat.zero_add, Nat.reduceAdd]
  repeat' (first
 | ((with_reducible show aW _ _ (some 33) _ _ _ _ _ _ _); clear mk1; rcases Nat.eq_zero_or_pos (iW f.n f.N t).length with hz | hz; all_goals (first | (have hlt : decide (((iW f.n f.N t).length : Int) > 0) = false := decide_eq_false (by omega); have hsz := aac h0 hz; have hzq : yZ (qh f ch t) (gY f ch).n (Dq f ch t) (gY f ch).f = true := (by rw [hsz.1, hsz.2]; exact Lf _ _)) | (have hlt : decide (((iW f.n f.N t).length : Int) > 0) = true := decide_eq_true (by omega))))
 | ((with_reducible show aW _ _ (some 24) _ _ _ _ _ _ _); (refine aF (k := 10) kZ (pX) ?_ ?_))
 | ((with_reducible show aW _ _ (some 26) _ _ _ _ _ _ _); (refine aF (k := 11) iI (kM f hf) ?_ ?_))
 | ((with_reducible show aW _ _ (some 33) _ _ _ _ _ _ _); (refine aF (k := 20) qJ (Jj f hf ch t) ?_ ?_))
 | ((with_reducible show aW _ _ (some 39) _ _ _ _ _ _ _); (refine aF (k := 21) qP (IQ f hf ch) ?_ ?_))
 | ((with_reducible show aW _ _ (some 46) _ _ _ _ _ _ _); (refine aF (k := 22) sZ (MQ f.n f.N hf.n hf.nn t) ?_ ?_))
 | ((with_reducible show bM _ _ _ (some 83) _ _ _ _ _ _); (refine aO (k := 23) oJ (fun hg => zY (qh f ch t) (gY f ch).n (Dq f ch t) (gY f ch).f hok.1 hso.n hok.2 hso.f) ?_ ?_))
 | ((with_reducible show bM _ _ _ (some 203) _ _ _ _ _ _); (refine aO (k := 23) oJ (fun hg => akF (nZ id (LF (gY f ch).f (gY f ch).n)) (by omega) (agf hso.f id) _ _ (fun i o hi ho => Da _ i o hi ho) (fun i o hi ho => Da _ i o hi ho)) ?_ ?_))
 | ((with_reducible show AW _ _ _ _); first
 | (with_reducible first | refine aS (fun K hK => ?_) | refine aI ?_ | refine aX ?_ | refine aT ?_ | refine aC ?_ | refine aB ?_)
 | (first
 | (with_reducible first | refine aP 0 [0,1,2,3] ?_ | refine aP 1 [1,2,3,4] ?_ | refine aP 2 [1,2,3,4,9] ?_ | refine aP 4 [1,2,3,4,9] ?_ | refine aP 5 [1,2,3,4,9,10,11] ?_ | refine aP 6 [1,2,3,4,9,10,11,12,13] ?_ | refine aP 7 [1,3,4,9,10,11,12,13,14,15] ?_ | refine aP 9 [1,3,4,9,10,12,13,14,15] ?_ | refine aP 10 [1,3,4,9,10,12,14] ?_ | refine aP 11 [1,3,4,9,10,12,14,16] ?_ | refine aP 12 [1,3,4,9,10,12,14,16] ?_)
 | ((with_reducible refine aR (c := Code.region 13 _ true) [1,3,4,9,10,12,14,16] ?_); (with_reducible refine aD ?_ ?_ ?_ ?_); (focus kernel_rfl); (focus kernel_rfl); (focus kernel_rfl))
 | ((with_reducible refine aR (c := Code.region 15 _ true) [1,3,4,9,10,12,14,16] ?_); (with_reducible refine aD ?_ ?_ ?_ ?_); (focus kernel_rfl); (focus kernel_rfl); (focus kernel_rfl))
 | (with_reducible first | refine aP 16 [1,3,4,9,10,12,14,16,17] ?_ | refine aP 17 [1,3,4,9,10,12,14,16,17,18] ?_ | refine aP 18 [1,3,4,9,10,12,14,16,17,18] ?_ | refine aP 19 [1,3,4,9,10,12,14,16,17,18] ?_ | refine aP 20 [1,3,4,9,10,12,14,16,17,18,19] ?_ | refine aP 21 [1,3,4,9,10,12,14,16,17,18,19] ?_ | refine aP 22 [1,3,4,9,10,12,14,16,17,18,19] ?_ | refine aP 23 [9] ?_ | refine aP 24 [3,9,10,12] ?_ | refine aP 25 [3,9,10,12,20] ?_ | refine aP 26 [3,9,10,12,20,21] ?_ | refine aP 27 [3,9,10,12,20,21,22] ?_ | refine aP 28 [3,9,10,12,20,21,22] ?_ | refine aP 29 [3,9,10,12,20,21,22] ?_ | refine aP 30 [3,9,10,12,20,21,22] ?_ | refine aP 31 [3,9,10,20,21] ?_ | refine aP 32 [3,9,10,20,21,23] ?_ | refine aP 33 [3,9,10,20,21,23] ?_ | refine aP 34 [3,9,10,20,21,23] ?_ | refine aP 35 [3,9,10,20,21,23] ?_ | refine aP 36 [9,20,21] ?_))
 | ((with_reducible show AW _ (Code.loop _) _ _); first
 | ((with_reducible refine aL (c := (Code.seq (Code.seq (Code.region 11 _ _) _) _)) (ι := Nat) [1,3,4,9,10,12,14] (fun i => [(16, iA .i64 (i : Int))]) (fun i => []) (fun i => i <= (iW f.n f.N t).length /\ (∀ u, u < i -> ¬ tcB (f.N (zL (iW f.n f.N t) u).toNat) ch id)) (fun i => (iW f.n f.N t).length - i) 0 ?_ ?_ ?_ ?_ ?_); (case' refine_5 => rintro i ⟨hi, hai⟩ KR hR11; simp only [bD, dD, hset, lk, if_true, if_false, xE, reduceIte, zN, bT, bX, bQ, bW, bP, bS, bY, bR, bU, bV, bg, bB, bn, Bool.and_self, h1, h0, h2, h3, hlt, hsm, hzq, BQ, lJ, jU, dN, List.length_append, maxLen]); (case' refine_4 => try (exact ⟨Nat.zero_le _, fun i hi => absurd hi (Nat.not_lt_zero _)⟩)); (case' refine_1 => rintro i _))
 | ((with_reducible refine aL (c := (Code.seq (Code.seq (Code.region 17 _ _) _) _)) (ι := Nat) [1,3,4,9,10,12,14,16,17] (fun k => [(18, iA .i64 (k : Int))]) (fun k => []) (fun k => k <= (f.N (zL (iW f.n f.N t) i).toNat).n /\ (∀ u, u < k -> ∀ j, j < ((f.N (zL (iW f.n f.N t) i).toNat).p u).k -> ¬ (((f.N (zL (iW f.n f.N t) i).toNat).p u).ch = ch /\ (((f.N (zL (iW f.n f.N t) i).toNat).p u).o j).id = id))) (fun k => (f.N (zL (iW f.n f.N t) i).toNat).n - k) 0 ?_ ?_ ?_ ?_ ?_); (case' refine_5 => rintro k ⟨hk, hak⟩ KR hR17; simp only [bD, dD, hset, lk, if_true, if_false, xE, reduceIte, zN, bT, bX, bQ, bW, bP, bS, bY, bR, bU, bV, bg, bB, bn, Bool.and_self, h1, h0, h2, h3, hlt, hsm, hzq, BQ, lJ, jU, dN, List.length_append, maxLen]); (case' refine_4 => try (exact ⟨Nat.zero_le _, fun i hi => absurd hi (Nat.not_lt_zero _)⟩)); (case' refine_1 => rintro k _))
 | ((with_reducible refine aL (c := (Code.seq (Code.seq (Code.region 20 _ _) _) _)) (ι := Nat) [1,3,4,9,10,12,14,16,17,18] (fun j => [(19, iA .i64 (j : Int))]) (fun j => []) (fun j => j <= ((f.N (zL (iW f.n f.N t) i).toNat).p k).k /\ (∀ u, u < j -> ¬ (((f.N (zL (iW f.n f.N t) i).toNat).p k).ch = ch /\ (((f.N (zL (iW f.n f.N t) i).toNat).p k).o u).id = id))) (fun j => ((f.N (zL (iW f.n f.N t) i).toNat).p k).k - j) 0 ?_ ?_ ?_ ?_ ?_); (case' refine_5 => rintro j ⟨hj, haj⟩ KR hR20; simp only [bD, dD, hset, lk, if_true, if_false, xE, reduceIte, zN, bT, bX, bQ, bW, bP, bS, bY, bR, bU, bV, bg, bB, bn, Bool.and_self, h1, h0, h2, h3, hlt, hsm, hzq, BQ, lJ, jU, dN, List.length_append, maxLen]); (case' refine_4 => try (exact ⟨Nat.zero_le _, fun i hi => absurd hi (Nat.not_lt_zero _)⟩)); (case' refine_1 => rintro j _))
 | ((with_reducible refine aL (c := (Code.seq (Code.seq (Code.region 27 _ _) _) _)) (ι := Nat) [3,9,10,12,21] (fun v => [(20, .t (.one (.slc 2 0 (nZ id (LF (gY f ch).f v)).length 9))), (22, iA .i64 (v : Int))]) (fun v => [(2, lI (nZ id (LF (gY f ch).f v)))]) (fun v => v <= (gY f ch).n) (fun v => (gY f ch).n - v) 0 ?_ ?_ ?_ ?_ ?_); (case' refine_5 => rintro v hvv KR hR27; have oL := L6 (gY f ch).f id v; simp only [bD, dD, hset, lk, if_true, if_false, xE, reduceIte, zN, bT, bX, bQ, bW, bP, bS, bY, bR, bU, bV, bg, bB, bn, Bool.and_self, h1, h0, h2, h3, hlt, hsm, hzq, BQ, lJ, jU, dN, List.length_append, maxLen]); (case' refine_4 => try (omega)); (case' refine_1 => rintro v _))
 | ((with_reducible refine aL (c := (Code.seq (Code.seq (Code.region 32 _ _) _) _)) (ι := Nat) [3,9,10,20] (fun w => [(21, .t (.one (.slc 3 0 (nZ id (LF (Dq f ch t) w)).length 9))), (23, iA .i64 (w : Int))]) (fun w => [(3, lI (nZ id (LF (Dq f ch t) w)))]) (fun w => w <= qh f ch t) (fun w => qh f ch t - w) 0 ?_ ?_ ?_ ?_ ?_); (case' refine_5 => rintro w hww KR hR32; have oR := L6 (Dq f ch t) id w; simp only [bD, dD, hset, lk, if_true, if_false, xE, reduceIte, zN, bT, bX, bQ, bW, bP, bS, bY, bR, bU, bV, bg, bB, bn, Bool.and_self, h1, h0, h2, h3, hlt, hsm, hzq, BQ, lJ, jU, dN, List.length_append, maxLen]); (case' refine_4 => try (omega)); (case' refine_1 => rintro w _))))
 | ((first | (with_reducible refine And.intro ?_ ?_) | (with_reducible refine Need.mk ?_)); focus (first | exact nX _ | first | exact True.intro | (with_reducible assumption) | omega | (intro _; exact True.intro) | (intros; (repeat' (first | omega | (with_reducible refine And.intro ?_ ?_))); done) | (simp; done)))
 | (with_reducible refine aJ ?_)
 | ((with_reducible show bL _ _ _ _ _ _); first
 | ((with_reducible refine aM ?_ ?_) <;> (intro hc; (try simp only [zB, zC, reduceCtorEq] at hc); ((try (have hx := Um (n := f.n) (N := f.N) (t := t) (i := i) (by omega); have hNo := hf.nn (zL (iW f.n f.N t) i).toNat (by omega); have hNn := hNo.n)); (try (have hPo := hNo.p k (by omega); have hPk := hPo.k)); (try (have e0 : w = qh f ch t := (by omega); subst e0; have hsm := ac4 h0 (id := id) (fun j hj => hai j (by omega)))); (try (have e0 : v = (gY f ch).n := (by omega); subst e0))); (try (exfalso; first | contradiction | omega)))))
 | ((with_reducible refine And.intro ?_ ?_); focus ((with_reducible show gV _ _ _ = true); kernel_rfl))
 | ((with_reducible refine hR11 _ (i + 1) ?_); (try clear hR11 KR))
 | ((with_reducible refine hR17 _ (k + 1) ?_); (try clear hR17 KR))
 | ((with_reducible refine hR20 _ (j + 1) ?_); (try clear hR20 KR))
 | ((with_reducible refine hR27 _ (v + 1) ?_); (try clear hR27 KR))
 | ((with_reducible refine hR32 _ (w + 1) ?_); (try clear hR32 KR))
 | ((with_reducible refine Told.mk ?_); simp only [go_sem, reduceIte, reduceCtorEq, xA, xL, xD, xE, xM, xS, xB, bT, bX, bQ, bW, bP, bS, bY, bR, bU, bV, bg, bB, bn, bC, Bool.and_self, h1, h0, h2, h3, hlt, hsm, hzq, BQ, lJ, jU, dN, List.length_append, maxLen] <;> (first | (((try simp (disch := omega) only [aY, Int.natCast_add, Int.cast_ofNat_Int, and_true, true_and, and_self]); (repeat' (first | omega | rfl | (with_reducible refine And.intro ?_ ?_) | ((exact all_succ (by assumption) (by omega))) | ((exact all_succ (by assumption) (fun j hj => haj j (by omega)))) | ((exact all_succ (by assumption) (aiP (by omega) hak))))); done)) | (((try simp (disch := omega) only [aY, Int.natCast_add, Int.cast_ofNat_Int, and_true, true_and, and_self]); (repeat' (first | omega | rfl | (with_reducible refine And.intro ?_ ?_) | ((first | rw [ajK (by assumption)] | rw [akh (by assumption)])) | ((exact jQ rfl (nX _))) | ((simp only [List.length_append, List.length_cons, List.length_nil, Nat.zero_add]; done)))); done))))
 | ((fail_if_success (with_reducible show AW _ _ _ _)); simp (maxSteps := 2000000) only [go_sem, reduceIte, reduceCtorEq, xA, xL, xD, xE, xM, xS, xB, Tryz.f5, bT, bX, bQ, bW, bP, bS, bY, bR, bU, bV, bg, bB, bn, bC, Bool.and_self, h1, h0, h2, h3, hlt, hsm, hzq, BQ, lJ, jU, dN, List.length_append, maxLen])
 | ((with_reducible refine hK _ ?_); clear hK K)
 | (with_reducible apply_assumption -exfalso only [*]))
theorem ae4 (f : aj) (hf : f.Ok) (ch t id : Int) : aA Tryz.prog 5 [iw f, .one (.g (.int .i64 ch)), .one (.g (.int .i64 t)), .one (.g (.int .i64 id))] (.t (.one (.g (.bool (true))))) := by
  cases h1 : oD f with
  | false => exact alP f hf ch t id h1
  | true =>
    by_cases h0 : nS f ch t = 0
    · exact alD f hf ch t id h1 h0
    · rcases (Sr h0).2 with h2 | h2
      · exact al9 f hf ch t id h1 h0 h2
      · exact alB f hf ch t id h1 h0 h2
end Go.Proofs.YtcfechepbamhkaaGreat
set_option maxRecDepth 100000
set_option maxHeartbeats 4000000
namespace Go.Proofs.YtcfechepbamhkaaGreat
open Go.RowKit Go.Sea
open Nat renaming reduceAdd -> xA, reduceLT -> xL, reduceLeDiff -> xD, reduceEqDiff -> xE, reduceMul -> xM, reduceSub -> xS, reduceBEq -> xB
theorem ajL {f g : aj} (h : yY f g = 0) : dR f = true /\ dR g = true /\ (∀ j, j < g.n -> jZ (kE f g j) (g.N j) = 0 \/ jZ (kE f g j) (g.N j) = 5) /\ mg f g = kE f g g.n := by
  have hv : dR f = true /\ dR g = true := Classical.byContradiction fun q => by unfold yY at h; rw [if_neg q] at h; cases h
  have hJ : ¬ mgJ f g < g.n := fun q => by
    have e := of_decide_eq_true ((gZ (b := mgB f g) (k := g.n)).2 q)
    unfold yY at h; rw [if_pos hv, if_pos q] at h
    exact e.1 h
  refine ⟨hv.1, hv.2, fun j hj => ?_, by unfold mg; rw [if_pos h]⟩
  have h1 := (gZ (b := mgB f g) (k := g.n)).1 j (by have : ¬ jw (mgB f g) g.n < g.n := hJ; omega)
  have h2 := of_decide_eq_false h1
  omega
theorem ajO {f g : aj} (hv : dR f = true) : ∀ i, dR (kE f g i) = true
  | 0 => hv
  | i + 1 => by
    by_cases e : jZ (kE f g i) (g.N i) = 0
    · rw [Ar e]; exact (aa4 e).1
    · rw [yB e]; exact ajO hv i
theorem ae1 {f : aj} {M : ah} (h : jZ f M = 0) {u : Nat} (hu : u < f.n) : ∃ v, v < (vX f M).n /\ (vX f M).N v = f.N u := by
  rw [(aa4 h).2]
  by_cases g : u < iN f M
  · exact ⟨u, Nat.lt_succ_of_lt hu, sF g⟩
  · exact ⟨u + 1, Nat.succ_lt_succ hu, rM (by omega)⟩
theorem aeU {f : aj} {M : ah} (h : jZ f M = 0) {v : Nat} (hv : v < (vX f M).n) : (vX f M).N v = M \/ ∃ u, u < f.n /\ (vX f M).N v = f.N u := by
  have hv : v < f.n + 1 := by have := (Uz h).2.1; omega
  rw [(aa4 h).2]
  rcases Nat.lt_trichotomy v (iN f M) with g | g | g
  · exact Or.inr ⟨v, by have := mZ f M; omega, sF g⟩
  · exact Or.inl (by rw [g]; exact xZ _ _ _)
  · exact Or.inr ⟨v - 1, by omega, rM g⟩
theorem adi {f : aj} {M : ah} (h : jZ f M = 5) : ∃ u, u < f.n /\ qp (f.N u) M = true := by
  unfold jZ at h
  split at h
  · split at h
    · cases h
    · split at h
      · rename_i q
        split at h
        · rename_i r; exact ⟨_, q.1, r⟩
        · cases h
      · split at h <;> cases h
  · cases h
theorem agK {a b : ah} (h : qp a b = true) : a.nu = b.nu /\ a.oc = b.oc := by
  unfold qp at h; simp only [Bool.and_eq_true, decide_eq_true_eq] at h; exact ⟨h.1.2.1, h.1.1⟩
theorem alR {f : aj} {M : ah} (hv : dR f = true) (hm : gM M = true) {u : Nat} (hu : u < f.n) (h : qp (f.N u) M = true) : jZ f M = 5 := by
  have hN := (lW (iE hv).2.2).2 u hu
  have e := agK h
  have e1 := Vx hv hu e.1
  have h1 : (f.N 0).oc = M.oc := hN.2.1.symm.trans e.2
  rw [e1] at hu h e
  exact adW ⟨hv, hm⟩ (fun q => q.2 h1) ⟨hu, e.1⟩ h
theorem I7 {f g : aj} {i u : Nat} (hu : u < (kE f g i).n) : ∃ v, v < (kE f g (i + 1)).n /\ (kE f g (i + 1)).N v = (kE f g i).N u := by
  by_cases e : jZ (kE f g i) (g.N i) = 0
  · rw [Ar e]; exact ae1 e hu
  · rw [yB e]; exact ⟨u, hu, rfl⟩
theorem Oc {f g : aj} {u : Nat} (hu : u < f.n) : ∀ i, ∃ v, v < (kE f g i).n /\ (kE f g i).N v = f.N u
  | 0 => ⟨u, hu, rfl⟩
  | i + 1 => by
    obtain ⟨v, h1, h2⟩ := Oc (f := f) (g := g) hu i
    obtain ⟨w, h3, h4⟩ := I7 h1
    exact ⟨w, h3, h4.trans h2⟩
theorem Fa {f g : aj} (h : ∀ j, j < g.n -> jZ (kE f g j) (g.N j) = 0 \/ jZ (kE f g j) (g.N j) = 5) : ∀ i, i <= g.n -> ∀ j, j < i -> ∃ v, v < (kE f g i).n /\ qp ((kE f g i).N v) (g.N j) = true
  | 0, _ => fun j hj => absurd hj (Nat.not_lt_zero j)
  | i + 1, hi => fun j hj => by
    by_cases e : j = i
    · subst e
      rcases h j (by omega) with q | q
      · rw [Ar q]
        have h1 := Uz q
        exact ⟨iN (kE f g j) (g.N j), by have := mZ (kE f g j) (g.N j); omega, by rw [h1.1]; exact JI _⟩
      · rw [yB (by omega)]; exact adi q
    · obtain ⟨v, h1, h2⟩ := Fa h i (by omega) j (by omega)
      obtain ⟨w, h3, h4⟩ := I7 h1
      exact ⟨w, h3, by rw [h4]; exact h2⟩
theorem KC {f g : aj} : ∀ i, i <= g.n -> ∀ v, v < (kE f g i).n -> (∃ u, u < f.n /\ (kE f g i).N v = f.N u) \/ ∃ u, u < g.n /\ (kE f g i).N v = g.N u
  | 0, _ => fun v hv => Or.inl ⟨v, hv, rfl⟩
  | i + 1, hi => fun v hv => by
    by_cases e : jZ (kE f g i) (g.N i) = 0
    · rw [Ar e] at hv ⊢
      rcases aeU e hv with q | ⟨u, q1, q2⟩
      · exact Or.inr ⟨i, by omega, q⟩
      · rw [q2]; exact KC i (by omega) u q1
    · rw [yB e] at hv ⊢; exact KC i (by omega) v hv
theorem MN {f g : aj} : ∀ i, f.n <= (kE f g i).n /\ (kE f g i).n <= f.n + i
  | 0 => ⟨Nat.le_refl _, Nat.le_refl _⟩
  | i + 1 => by
    have ih := MN (f := f) (g := g) i
    by_cases e : jZ (kE f g i) (g.N i) = 0
    · rw [Ar e, (Uz e).2.1]; omega
    · rw [yB e]; omega
theorem Ng {a g : aj} (h : ∀ j, j < g.n -> jZ a (g.N j) = 5) : ∀ i, i <= g.n -> kE a g i = a
  | 0, _ => rfl
  | i + 1, hi => by
    have ih := Ng h i (by omega)
    rw [yB (by rw [ih, h i (by omega)]; decide)]; exact ih
theorem XP {f g : aj} (h : yY f g = 0) : yY (mg f g) g = 0 /\ mg (mg f g) g = mg f g := by
  have h0 := ajL h
  have hv : dR (mg f g) = true := by rw [h0.2.2.2]; exact ajO h0.1 _
  have h5 : ∀ j, j < g.n -> jZ (mg f g) (g.N j) = 5 := fun j hj => by
    obtain ⟨v, h1, h2⟩ := Fa h0.2.2.1 g.n (Nat.le_refl _) j hj
    rw [<- h0.2.2.2] at h1 h2
    exact alR hv ((lW (iE h0.2.1).2.2).2 j hj).1 h1 h2
  have hs := Ng h5
  have := akQ (f := mg f g) (g := g) (i := g.n) ⟨hv, h0.2.1⟩ (Int.le_refl _) (Nat.le_refl _) (fun j hj => adJ (Or.inr (by rw [hs j (by omega)]; exact h5 j hj)))
  rw [hs g.n (Nat.le_refl _)] at this
  exact this
def YO (b : Nat -> Bool) (k : Nat) : Bool := decide (∃ u, u < k /\ b u = true)
theorem ads (b : Nat -> Bool) : YO b 0 = false := decide_eq_false fun ⟨_, h, _⟩ => absurd h (Nat.not_lt_zero _)
theorem aj0 {b : Nat -> Bool} {k : Nat} (h : YO b k = true) : YO b (k + 1) = true := by
  obtain ⟨u, h1, h2⟩ := of_decide_eq_true h
  exact decide_eq_true ⟨u, by omega, h2⟩
theorem ajN {b : Nat -> Bool} {k : Nat} (h : YO b k = false) : YO b (k + 1) = b k := by
  cases e : b k
  · refine decide_eq_false fun ⟨u, h1, h2⟩ => ?_
    by_cases g : u = k
    · rw [g, e] at h2; cases h2
    · exact of_decide_eq_false h ⟨u, by omega, h2⟩
  · exact decide_eq_true ⟨k, by omega, e⟩
def fo1 (a f : aj) (i k : Nat) : Bool := YO (fun u => qp (a.N i) (f.N u)) k
def fo2 (a f g : aj) (i k : Nat) : Bool := fo1 a f i f.n || fo1 a g i k
def mN (f g : aj) (k : Nat) : ah := if k < f.n then f.N k else g.N (k - f.n)
def fo3 (a : aj) (M : ah) (k : Nat) : Bool := YO (fun u => qp (a.N u) M) k
theorem yM (a f : aj) (i : Nat) : fo1 a f i 0 = false := ads _
theorem AO (a f g : aj) (i : Nat) : fo2 a f g i 0 = fo1 a f i f.n := by unfold fo2; rw [yM, Bool.or_false]
theorem AA (a : aj) (M : ah) : fo3 a M 0 = false := ads _
theorem adu (b : Nat -> Bool) (k : Nat) : YO b (k + 1) = (YO b k || b k) := by
  cases h : YO b k
  · rw [ajN h]; rfl
  · rw [aj0 h]; rfl
theorem adT (a f : aj) (i k : Nat) : fo1 a f i (k + 1) = (fo1 a f i k || qp (a.N i) (f.N k)) := adu _ _
theorem ahS (a f g : aj) (i k : Nat) : fo2 a f g i (k + 1) = (fo2 a f g i k || qp (a.N i) (g.N k)) := by
  unfold fo2; rw [adT, Bool.or_assoc]
theorem adp (a : aj) (M : ah) (k : Nat) : fo3 a M (k + 1) = (fo3 a M k || qp (a.N k) M) := adu _ _
theorem alh {f g : aj} {k : Nat} (h : (k : Int) < f.n) : mN f g k = f.N k := if_pos (by omega)
theorem ajf {f g : aj} {k : Nat} (h : ¬ (k : Int) < f.n) : mN f g k = g.N (k - f.n) := if_neg (by omega)
theorem ag8 {f g : aj} (h : yY f g = 0) : (∀ i, i < (mg f g).n -> fo2 (mg f g) f g i g.n = true) /\ (∀ k, k < f.n + g.n -> fo3 (mg f g) (mN f g k) (mg f g).n = true) /\ f.n <= (mg f g).n /\ (mg f g).n <= f.n + g.n := by
  have h0 := ajL h
  rw [h0.2.2.2]
  refine ⟨fun i hi => ?_, fun k hk => ?_, MN g.n⟩
  · unfold fo2
    rcases KC g.n (Nat.le_refl _) i hi with ⟨u, q1, q2⟩ | ⟨u, q1, q2⟩
    · rw [show fo1 (kE f g g.n) f i f.n = true from decide_eq_true ⟨u, q1, by rw [q2]; exact JI _⟩]; rfl
    · rw [show fo1 (kE f g g.n) g i g.n = true from decide_eq_true ⟨u, q1, by rw [q2]; exact JI _⟩, Bool.or_true]
  · unfold mN
    split
    · rename_i q
      obtain ⟨v, h1, h2⟩ := Oc (f := f) (g := g) q g.n
      exact decide_eq_true ⟨v, h1, by show qp _ _ = true; rw [h2]; exact JI _⟩
    · obtain ⟨v, h1, h2⟩ := Fa h0.2.2.1 g.n (Nat.le_refl _) (k - f.n) (by omega)
      exact decide_eq_true ⟨v, h1, h2⟩
theorem ahy {f g : aj} (h : yY f g ≠ 0) : Jy (mg f g) oo = true := by unfold mg; rw [if_neg h]; exact UC oo
theorem akS (f : aj) (hf : f.Ok) (g : aj) (hgO : g.Ok) (h : yY f g = 0) : aA Tryz.prog 25 [iw (mg f g), iw g] (.tup [iw (mg f g), .one (.g (.int .i64 (0)))]) := by
  have := ahH (mg f g) (Ls f hf g hgO) g hgO
  rw [(XP h).1, (XP h).2] at this; exact this
theorem alY (f : aj) (hf : f.Ok) (g : aj) (hgO : g.Ok) (h1 : oD f = false) : aA Tryz.prog 7 [iw f, iw g] (.t (.one (.g (.bool (true))))) := by
  refine ak Tryz.func7 rfl (by rw [Tryz.ntmps7]; simp) ?_
  simp only [Tryz.ntmps7, zM, PT.tv, au, Nat.zero_add, Nat.reduceAdd]
  repeat' (first
 | ((with_reducible show aW _ _ (some 19) _ _ _ _ _ _ _); (refine aF (k := 10) kZ (pX) ?_ ?_))
 | ((with_reducible show aW _ _ (some 21) _ _ _ _ _ _ _); (refine aF (k := 11) iI (kM f hf) ?_ ?_))
 | ((with_reducible show bM _ _ _ (some 25) _ _ _ _ _ _); (refine aO (k := 11) iI (fun hg => kM g hgO) ?_ ?_))
 | ((with_reducible show AW _ _ _ _); first
 | (with_reducible first | refine aS (fun K hK => ?_) | refine aT ?_ | refine aC ?_)
 | ((with_reducible first | refine aP 0 [0,1] ?_ | refine aP 1 [2,3] ?_ | refine aP 2 [2,3,5] ?_ | refine aP 3 [5] ?_)))
 | (((with_reducible refine Need.mk ?_)); focus (first | exact True.intro | (simp; done)))
 | (with_reducible refine aJ ?_)
 | ((with_reducible show bL _ _ _ _ _ _); first
 | ((with_reducible refine aM ?_ ?_) <;> (intro hc; (try simp only [zB, zC, reduceCtorEq] at hc); (try (exfalso; contradiction)))))
 | ((fail_if_success (with_reducible show AW _ _ _ _)); simp (maxSteps := 2000000) only [go_sem, reduceIte, reduceCtorEq, xA, xL, xD, xE, xM, xS, xB, Tryz.f7, bT, bX, bQ, bW, bP, bS, bY, bR, bU, bV, bg, bB, bn, bC, Bool.and_self, h1])
 | ((with_reducible refine hK _ ?_); clear hK K))
theorem alN (f : aj) (hf : f.Ok) (g : aj) (hgO : g.Ok) (h1 : oD f = true) (h2 : oD g = false) : aA Tryz.prog 7 [iw f, iw g] (.t (.one (.g (.bool (true))))) := by
  refine ak Tryz.func7 rfl (by rw [Tryz.ntmps7]; simp) ?_
  simp only [Tryz.ntmps7, zM, PT.tv, au, Nat.zero_add, Nat.reduceAdd]
  repeat' (first
 | ((with_reducible show aW _ _ (some 19) _ _ _ _ _ _ _); (refine aF (k := 10) kZ (pX) ?_ ?_))
 | ((with_reducible show aW _ _ (some 21) _ _ _ _ _ _ _); (refine aF (k := 11) iI (kM f hf) ?_ ?_))
 | ((with_reducible show bM _ _ _ (some 25) _ _ _ _ _ _); (refine aO (k := 11) iI (fun hg => kM g hgO) ?_ ?_))
 | ((with_reducible show AW _ _ _ _); first
 | (with_reducible first | refine aS (fun K hK => ?_) | refine aT ?_ | refine aC ?_)
 | ((with_reducible first | refine aP 0 [0,1] ?_ | refine aP 1 [2,3] ?_ | refine aP 2 [2,3,5] ?_ | refine aP 3 [5] ?_)))
 | (((with_reducible refine Need.mk ?_)); focus (first | exact True.intro | (intro _; exact True.intro)))
 | (with_reducible refine aJ ?_)
 | ((with_reducible show bL _ _ _ _ _ _); first
 | ((with_reducible refine aM ?_ ?_) <;> (intro hc; (try simp only [zB, zC, reduceCtorEq] at hc); (try (exfalso; contradiction)))))
 | ((fail_if_success (with_reducible show AW _ _ _ _)); simp (maxSteps := 2000000) only [go_sem, reduceIte, reduceCtorEq, xA, xL, xD, xE, xM, xS, xB, Tryz.f7, bT, bX, bQ, bW, bP, bS, bY, bR, bU, bV, bg, bB, bn, bC, Bool.and_self, h1, h2])
 | ((with_reducible refine hK _ ?_); clear hK K))
theorem amb (f : aj) (hf : f.Ok) (g : aj) (hgO : g.Ok) (h1 : oD f = true) (h2 : oD g = true) (h0 : yY f g ≠ 0) : aA Tryz.prog 7 [iw f, iw g] (.t (.one (.g (.bool (true))))) := by
  have hn0 : (yY f g != 0) = true := bne_iff_ne.2 h0
  have hAo := Ls f hf g hgO
  refine ak Tryz.func7 rfl (by rw [Tryz.ntmps7]; simp) ?_
  simp only [Tryz.ntmps7, zM, PT.tv, au, Nat.zero_add, Nat.reduceAdd]
  repeat' (first
 | ((with_reducible show aW _ _ (some 19) _ _ _ _ _ _ _); (refine aF (k := 10) kZ (pX) ?_ ?_))
 | ((with_reducible show aW _ _ (some 21) _ _ _ _ _ _ _); (refine aF (k := 11) iI (kM f hf) ?_ ?_))
 | ((with_reducible show bM _ _ _ (some 25) _ _ _ _ _ _); (refine aO (k := 11) iI (fun hg => kM g hgO) ?_ ?_))
 | ((with_reducible show aW _ _ (some 32) _ _ _ _ _ _ _); (refine aF (k := 25) zH (ahH f hf g hgO) ?_ ?_))
 | ((with_reducible show bM _ _ _ (some 41) _ _ _ _ _ _); (refine aO (k := 17) ES (fun hg => akf (mg f g) hAo (ahy h0)) ?_ ?_))
 | ((with_reducible show AW _ _ _ _); first
 | (with_reducible first | refine aS (fun K hK => ?_) | refine aI ?_ | refine aT ?_ | refine aC ?_)
 | ((with_reducible first | refine aP 0 [0,1] ?_ | refine aP 1 [2,3] ?_ | refine aP 2 [2,3,5] ?_ | refine aP 4 [2,3,5] ?_ | refine aP 5 [2,3,5,6,7] ?_ | refine aP 6 [5,6] ?_)))
 | (((with_reducible refine Need.mk ?_)); focus (first | exact True.intro | (intro _; exact True.intro)))
 | (with_reducible refine aJ ?_)
 | ((with_reducible show bL _ _ _ _ _ _); first
 | ((with_reducible refine aM ?_ ?_) <;> (intro hc; (try simp only [zB, zC, reduceCtorEq] at hc); (try (exfalso; contradiction)))))
 | ((fail_if_success (with_reducible show AW _ _ _ _)); simp (maxSteps := 2000000) only [go_sem, reduceIte, reduceCtorEq, xA, xL, xD, xE, xM, xS, xB, Tryz.f7, bT, bX, bQ, bW, bP, bS, bY, bR, bU, bV, bg, bB, bn, bC, Bool.and_self, h1, h2, hn0])
 | ((with_reducible refine hK _ ?_); clear hK K))
theorem alr (f : aj) (hf : f.Ok) (g : aj) (hgO : g.Ok) (h1 : oD f = true) (h2 : oD g = true) (h0 : yY f g = 0) : aA Tryz.prog 7 [iw f, iw g] (.t (.one (.g (.bool (true))))) := by
  have hAo := Ls f hf g hgO
  have hal := ag8 h0
  have hn := hf.n
  have hgn := hgO.n
  have han := hAo.n
  have hfn : f.n <= 12 /\ g.n <= 12 := ⟨(of_decide_eq_true h1).2.1, (of_decide_eq_true h2).2.1⟩
  have hcn : decide ((mg f g).n >= f.n) = true /\ True := ⟨decide_eq_true (by omega), trivial⟩
  have hx : True := trivial
  have hwr : True := trivial
  have hmk : True := trivial
  have hwk : IntKind.i64.wrap ((f.n : Int) + (g.n : Int)) = (f.n : Int) + (g.n : Int) := (by rw [IntKind.wrap_i64]; omega)
  refine ak Tryz.func7 rfl (by rw [Tryz.ntmps7]; simp) ?_
  simp only [Tryz.ntmps7, zM, PT.tv, au, Nat.zero_add, Nat.reduceAdd]
  repeat' (first
 | ((with_reducible show aW _ _ (some 19) _ _ _ _ _ _ _); (refine aF (k := 10) kZ (pX) ?_ ?_))
 | ((with_reducible show aW _ _ (some 21) _ _ _ _ _ _ _); (refine aF (k := 11) iI (kM f hf) ?_ ?_))
 | ((with_reducible show bM _ _ _ (some 25) _ _ _ _ _ _); (refine aO (k := 11) iI (fun hg => kM g hgO) ?_ ?_))
 | ((with_reducible show aW _ _ (some 32) _ _ _ _ _ _ _); (refine aF (k := 25) zH (ahH f hf g hgO) ?_ ?_))
 | ((with_reducible show aW _ _ (some 46) _ _ _ _ _ _ _); (refine aF (k := 25) zH (akS f hf g hgO h0) ?_ ?_))
 | ((with_reducible show bM _ _ _ (some 57) _ _ _ _ _ _); (refine aO (k := 17) ES (fun hg => ajG (mg f g) hAo) ?_ ?_))
 | ((with_reducible show jV _ _ _ _ _ (some 85) _ _ _ _ _ _ _); (refine gP (k := 19) qH (fun hg => Xi ((mg f g).N i) (f.N k) (hAo.nn i (by omega)) (hf.nn k (by omega))) ?_ ?_))
 | ((with_reducible show jV _ _ _ _ _ (some 106) _ _ _ _ _ _ _); (refine gP (k := 19) qH (fun hg => Xi ((mg f g).N i) (g.N j) (hAo.nn i (by omega)) (hgO.nn j (by omega))) ?_ ?_))
 | ((with_reducible show jV _ _ _ _ _ (some 160) _ _ _ _ _ _ _); first | (have hkk : (k : Int) < f.n := (by assumption); refine gP (k := 19) qH (fun hg => Xi ((mg f g).N j) (f.N k) (hAo.nn j (by omega)) (hf.nn k (by omega))) ?_ ?_) | (refine gP (k := 19) qH (fun hg => Xi ((mg f g).N j) (g.N (k - f.n)) (hAo.nn j (by omega)) (hgO.nn _ (by omega))) ?_ ?_))
 | ((with_reducible show AW _ _ _ _); first
 | (with_reducible first | refine aS (fun K hK => ?_) | refine aI ?_ | refine aX ?_ | refine aT ?_ | refine aC ?_ | refine aB ?_)
 | (first
 | (with_reducible first | refine aP 0 [0,1] ?_ | refine aP 1 [2,3] ?_ | refine aP 2 [2,3,5] ?_ | refine aP 4 [2,3,5] ?_ | refine aP 5 [2,3,5,6,7] ?_ | refine aP 7 [2,3,5,6] ?_ | refine aP 8 [2,3,5,6,8,9] ?_ | refine aP 9 [2,3,5,6] ?_ | refine aP 10 [2,3,5,6,10] ?_ | refine aP 11 [2,3,5,6,10,11] ?_ | refine aP 12 [2,3,5,6,10,11] ?_ | refine aP 13 [2,3,5,6,10,11] ?_ | refine aP 14 [2,3,5,6,10,11,12] ?_ | refine aP 15 [2,3,5,6,10,11,12,13] ?_ | refine aP 16 [2,3,5,6,10,11,12,13] ?_)
 | ((with_reducible refine aR (c := Code.region 17 _ true) [2,3,5,6,10,11,12,13] ?_); (with_reducible refine aD ?_ ?_ ?_ ?_); (focus kernel_rfl); (focus kernel_rfl); (focus kernel_rfl))
 | (with_reducible first | refine aP 18 [2,3,5,6,10,11,12] ?_ | refine aP 19 [2,3,5,6,10,11,12,14] ?_ | refine aP 20 [2,3,5,6,10,11,12,14] ?_)
 | ((with_reducible refine aR (c := Code.region 21 _ true) [2,3,5,6,10,11,12,14] ?_); (with_reducible refine aD ?_ ?_ ?_ ?_); (focus kernel_rfl); (focus kernel_rfl); (focus kernel_rfl))
 | (with_reducible first | refine aP 22 [2,3,5,6,10,11,12] ?_ | refine aP 23 [2,3,5,6,10,11] ?_ | refine aP 24 [2,3,5,6,10] ?_ | refine aP 25 [2,3,5,6,10,15] ?_ | refine aP 26 [2,3,5,6,10,15] ?_ | refine aP 27 [2,3,5,6,10,15] ?_ | refine aP 28 [2,3,5,6,10,15,16] ?_ | refine aP 29 [2,3,5,6,10,15,16] ?_ | refine aP 30 [2,3,5,6,10,15,16] ?_ | refine aP 31 [2,3,5,6,10,15,16] ?_ | refine aP 32 [2,3,5,6,10,15,16,17] ?_ | refine aP 33 [2,3,5,6,10,15,16,17,18] ?_ | refine aP 34 [2,3,5,6,10,15,16,17,18] ?_)
 | ((with_reducible refine aR (c := Code.region 35 _ true) [2,3,5,6,10,15,16,17,18] ?_); (with_reducible refine aD ?_ ?_ ?_ ?_); (focus kernel_rfl); (focus kernel_rfl); (focus kernel_rfl))
 | (with_reducible first | refine aP 36 [2,3,5,6,10,15,17] ?_ | refine aP 37 [2,3,5,10] ?_))
 | ((with_reducible show AW _ (Code.loop _) _ _); first
 | ((with_reducible refine aL (c := (Code.seq (Code.seq (Code.region 11 _ _) _) _)) (ι := Nat) [2,3,6] (fun i => [(5, .t (.one (.iv (.g (.bool true))))), (10, iA .i64 (i : Int)), (11, iA .i64 (i : Int))]) (fun i => []) (fun i => i <= (mg f g).n) (fun i => (mg f g).n - i) 0 ?_ ?_ ?_ ?_ ?_); (case' refine_5 => rintro i hi KR hR11; simp only [bD, dD, hset, lk, if_true, if_false, xE, reduceIte, zN, bT, bX, bQ, bW, bP, bS, bY, bR, bU, bV, bg, bB, bn, Bool.and_self, h1, h2, h0, yM, AO, AA, hx, hwr, hwk]); (case' refine_4 => try (omega)); (case' refine_1 => rintro i _))
 | ((with_reducible refine aL (c := (Code.seq (Code.seq (Code.region 15 _ _) _) _)) (ι := Nat) [2,3,5,6,10,11] (fun k => [(12, .t (.one (.iv (.g (.bool (fo1 (mg f g) f i k)))))), (13, iA .i64 (k : Int))]) (fun k => []) (fun k => k <= f.n) (fun k => f.n - k) 0 ?_ ?_ ?_ ?_ ?_); (case' refine_5 => rintro k hk KR hR15; simp only [bD, dD, hset, lk, if_true, if_false, xE, reduceIte, zN, bT, bX, bQ, bW, bP, bS, bY, bR, bU, bV, bg, bB, bn, Bool.and_self, h1, h2, h0, yM, AO, AA, hx, hwr, hwk]); (case' refine_4 => try (omega)); (case' refine_1 => rintro k _))
 | ((with_reducible refine aL (c := (Code.seq (Code.seq (Code.region 19 _ _) _) _)) (ι := Nat) [2,3,5,6,10,11] (fun j => [(12, .t (.one (.iv (.g (.bool (fo2 (mg f g) f g i j)))))), (14, iA .i64 (j : Int))]) (fun j => []) (fun j => j <= g.n) (fun j => g.n - j) 0 ?_ ?_ ?_ ?_ ?_); (case' refine_5 => rintro j hj KR hR19; simp only [bD, dD, hset, lk, if_true, if_false, xE, reduceIte, zN, bT, bX, bQ, bW, bP, bS, bY, bR, bU, bV, bg, bB, bn, Bool.and_self, h1, h2, h0, yM, AO, AA, hx, hwr, hwk]); (case' refine_4 => try (omega)); (case' refine_1 => rintro j _))
 | ((with_reducible refine aL (c := (Code.seq (Code.seq (Code.region 25 _ _) _) _)) (ι := Nat) [2,3,6,10] (fun k => [(5, .t (.one (.iv (.g (.bool true))))), (15, iA .i64 (k : Int))]) (fun k => []) (fun k => k <= f.n + g.n) (fun k => f.n + g.n - k) 0 ?_ ?_ ?_ ?_ ?_); (case' refine_5 => rintro k hk KR hR25; simp only [bD, dD, hset, lk, if_true, if_false, xE, reduceIte, zN, bT, bX, bQ, bW, bP, bS, bY, bR, bU, bV, bg, bB, bn, Bool.and_self, h1, h2, h0, yM, AO, AA, hx, hwr, hwk]); (case' refine_4 => try (omega)); (case' refine_1 => rintro k _))
 | ((with_reducible refine aL (c := (Code.seq (Code.seq (Code.region 33 _ _) _) _)) (ι := Nat) [2,3,5,6,10,15,16] (fun j => [(17, .t (.one (.iv (.g (.bool (fo3 (mg f g) (mN f g k) j)))))), (18, iA .i64 (j : Int))]) (fun j => []) (fun j => j <= (mg f g).n) (fun j => (mg f g).n - j) 0 ?_ ?_ ?_ ?_ ?_); (case' refine_5 => rintro j hj KR hR33; simp only [bD, dD, hset, lk, if_true, if_false, xE, reduceIte, zN, bT, bX, bQ, bW, bP, bS, bY, bR, bU, bV, bg, bB, bn, Bool.and_self, h1, h2, h0, yM, AO, AA, hx, hwr, hwk]); (case' refine_4 => try (omega)); (case' refine_1 => rintro j _))))
 | ((first | (with_reducible refine And.intro ?_ ?_) | (with_reducible refine Need.mk ?_)); focus (first | exact True.intro | omega | (intro _; first | exact True.intro | (with_reducible assumption)) | (intros; (repeat' (first | omega | (with_reducible refine And.intro ?_ ?_))); done) | (simp; done)))
 | (with_reducible refine aJ ?_)
 | ((with_reducible show bL _ _ _ _ _ _); first
 | ((with_reducible refine aM ?_ ?_) <;> (intro hc; (try simp only [zB, zC, reduceCtorEq] at hc); ((try (have e0 : k = f.n := (by omega); subst e0)); (try (have e0 : j = g.n := (by omega); subst e0; have hx := hal.1 i (by omega))); (try (have e0 : j = (mg f g).n := (by omega); subst e0; have hx := hal.2.1 k (by omega))); (try (have hwr : IntKind.i64.wrap ((k : Int) - (f.n : Int)) = ((k - f.n : Nat) : Int) := (by rw [IntKind.wrap_i64]; omega))); (try (have hwk : IntKind.i64.wrap ((f.n : Int) + (g.n : Int)) = (f.n : Int) + (g.n : Int) := (by rw [IntKind.wrap_i64]; omega))); (try (have hmk := alh (f := f) (g := g) (k := k) (by assumption))); (try (have hmk := ajf (f := f) (g := g) (k := k) (by assumption)))); (try (exfalso; contradiction)))))
 | ((with_reducible refine And.intro ?_ ?_); focus ((with_reducible show gV _ _ _ = true); kernel_rfl))
 | ((with_reducible refine hR11 _ (i + 1) ?_); (try clear hR11 KR))
 | ((with_reducible refine hR15 _ (k + 1) ?_); (try clear hR15 KR))
 | ((with_reducible refine hR19 _ (j + 1) ?_); (try clear hR19 KR))
 | ((with_reducible refine hR25 _ (k + 1) ?_); (try clear hR25 KR))
 | ((with_reducible refine hR33 _ (j + 1) ?_); (try clear hR33 KR))
 | ((with_reducible refine Told.mk ?_); simp only [go_sem, reduceIte, reduceCtorEq, xA, xL, xD, xE, xM, xS, xB, bT, bX, bQ, bW, bP, bS, bY, bR, bU, bV, bg, bB, bn, bC, Bool.and_self, h1, h2, h0, yM, AO, AA, hx, hwr, hwk] <;> ((((try simp (disch := omega) only [aY, Int.natCast_add, Int.cast_ofNat_Int, and_true, true_and, and_self]); (repeat' (first | omega | (with_reducible refine And.intro ?_ ?_) | ((first | rw [adT] | rw [ahS])) | ((rw [adp, hmk])) | ((rw [adp, ajf (by omega)])))); done))))
 | ((fail_if_success (with_reducible show AW _ _ _ _)); simp (maxSteps := 2000000) only [go_sem, reduceIte, reduceCtorEq, xA, xL, xD, xE, xM, xS, xB, Tryz.f7, bT, bX, bQ, bW, bP, bS, bY, bR, bU, bV, bg, bB, bn, bC, Bool.and_self, h1, h2, h0, yM, AO, AA, hx, hwr, hwk])
 | ((fail_if_success (with_reducible show AW _ _ _ _)); simp (disch := omega) only [aY, jy, jH])
 | ((with_reducible refine hK _ ?_); clear hK K)
 | (with_reducible apply_assumption -exfalso only [*]))
  all_goals (have := hal.2.2; rw [decide_eq_true (by omega), decide_eq_true (by omega)]; rfl)
theorem ae0 (f : aj) (hf : f.Ok) (g : aj) (hgO : g.Ok) : aA Tryz.prog 7 [iw f, iw g] (.t (.one (.g (.bool (true))))) := by
  cases h1 : oD f with
  | false => exact alY f hf g hgO h1
  | true => cases h2 : oD g with
    | false => exact alN f hf g hgO h1 h2
    | true =>
      by_cases h0 : yY f g = 0
      · exact alr f hf g hgO h1 h2 h0
      · exact amb f hf g hgO h1 h2 h0
end Go.Proofs.YtcfechepbamhkaaGreat
