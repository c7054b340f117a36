/- Part 17 of 17: contracts of functions and plain laws for the root text. No condition. -/
import Derived.Test.YtcfechepbamhkaaGreatZ01
import Derived.Test.YtcfechepbamhkaaGreatZ02
import Derived.Test.YtcfechepbamhkaaGreatZ03
import Derived.Test.YtcfechepbamhkaaGreatZ04
import Derived.Test.YtcfechepbamhkaaGreatZ05
import Derived.Test.YtcfechepbamhkaaGreatZ06
import Derived.Test.YtcfechepbamhkaaGreatZ07
import Derived.Test.YtcfechepbamhkaaGreatZ08
import Derived.Test.YtcfechepbamhkaaGreatZ09
import Derived.Test.YtcfechepbamhkaaGreatZ10
import Derived.Test.YtcfechepbamhkaaGreatZ11
import Derived.Test.YtcfechepbamhkaaGreatZ12
import Derived.Test.YtcfechepbamhkaaGreatZ13
import Derived.Test.YtcfechepbamhkaaGreatZ14
import Derived.Test.YtcfechepbamhkaaGreatZ15
import Derived.Test.YtcfechepbamhkaaGreatZ16
import Derived.Shelf.SlGeneric
import Derived.Ground.SlgfProg
import Derived.Shelf.SlicesE.DeleteFunc
import Derived.Test.YtcfechepbamhkaaGreatProg
set_option linter.unusedVariables false
set_option linter.unusedSimpArgs false
set_option maxRecDepth 100000
set_option maxHeartbeats 4000000
namespace Go.Proofs.YtcfechepbamhkaaGreat
open Go.RowKit Go.Sea
open Nat renaming reduceAdd -> xA, reduceLT -> xL, reduceLeDiff -> xD, reduceEqDiff -> xE, reduceMul -> xM, reduceSub -> xS, reduceBEq -> xB
theorem zi : aN Tryz.prog 13 = true := by kernel_rfl
theorem Gr : aN Tryz.prog 20 = true := by kernel_rfl
theorem E9 : aN Tryz.prog 21 = true := by kernel_rfl
theorem Fz : aN Tryz.prog 29 = true := by kernel_rfl
theorem NS : aN Tryz.prog 39 = true := by kernel_rfl
theorem alJ : fM Tryz.prog 35 = true := by kernel_rfl
theorem adl : dz Tryz.prog 28 0 = some (0, 1) := by kernel_rfl
theorem abI : dz Tryz.prog 28 1 = some (1, 1) := by kernel_rfl
theorem ab0 : dz Tryz.prog 28 2 = some (2, 1) := by kernel_rfl
theorem ae9 : dz Tryz.prog 28 3 = some (3, 1) := by kernel_rfl
theorem ae0 : dz Tryz.prog 28 4 = some (4, 1) := by kernel_rfl
theorem aeM : dz Tryz.prog 28 6 = some (6, 1) := by kernel_rfl
theorem afd : dz Tryz.prog 35 0 = some (0, 1) := by kernel_rfl
theorem abq : dz Tryz.prog 35 4 = some (4, 1) := by kernel_rfl
theorem adX : dz Tryz.prog 39 0 = some (0, 1) := by kernel_rfl
theorem adY : dz Tryz.prog 39 1 = some (1, 1) := by kernel_rfl
theorem abn : dz Tryz.prog 39 2 = some (2, 1) := by kernel_rfl
theorem adN : dz Tryz.prog 39 3 = some (3, 7) := by kernel_rfl
theorem adp : dz Tryz.prog 39 4 = some (10, 1) := by kernel_rfl
theorem abk : dz Tryz.prog 39 5 = some (11, 1) := by kernel_rfl
theorem ae7 : dz Tryz.prog 39 6 = some (12, 1) := by kernel_rfl
theorem afn : dz Tryz.prog 58 0 = some (0, 1) := by kernel_rfl
theorem abm : dz Tryz.prog 58 1 = some (1, 1) := by kernel_rfl
theorem ael : dz Tryz.prog 58 2 = some (2, 1) := by kernel_rfl
theorem acf : dz Tryz.prog 64 0 = some (0, 1) := by kernel_rfl
theorem ab6 : dz Tryz.prog 64 1 = some (1, 1) := by kernel_rfl
theorem acZ : dz Tryz.prog 64 5 = some (6, 1) := by kernel_rfl
theorem acO : dz Tryz.prog 64 6 = some (7, 1) := by kernel_rfl
theorem ab5 : dz Tryz.prog 66 5 = some (14, 1) := by kernel_rfl
theorem aeP : dz Tryz.prog 66 6 = some (15, 1) := by kernel_rfl
theorem aln : fV Tryz.prog 35 = some [.iv (.g (.int .i64 0)), .iv (.g (.int .i64 0)), .iv (.g (.int .i64 0)), .iv (.g (.int .i64 0)), .iv (.g (.int .i64 0)), .iv (.g (.int .i64 0)), .iv (.g (.int .i64 0))] := by kernel_rfl
attribute [go_sem] zi Gr E9 Fz NS alJ adl abI ab0 ae9 ae0 aeM afd abq adX adY abn adN adp abk ae7 afn abm ael acf ab6 acZ acO ab5 aeP aln
def opZ (kd d s : Int) : fE := ⟨kd, 1, eF, 0, 0, 0, d, s⟩
def Yr (ch af : Int) (op : fE) : eH := ⟨ch, if 0 < af then 1 else 0, fun _ => af, 1, fun _ => op⟩
def exS : aH := ⟨7, 1, 3, ⟨1000000, 0, 0, 0, 1000000, 0, 0⟩, 500, 1, fun _ => 4, 1, fun _ => ⟨1, 2, 0, 0, 0, 0, fun _ _ => 0, 30, 0, 0, fun _ _ => 0⟩⟩
def jw : Nat -> ah
  | 0 => ⟨1, 5, 1, 0, 0, 0, 1, fun _ => Yr 7 4 (opZ 4 20 0)⟩
  | 1 => ⟨1, 6, 2, 10, 20, 0, 1, fun _ => Yr 7 0 (opZ 4 5 0)⟩
  | 2 => ⟨1, 7, 1, 0, 0, 0, 1, fun _ => Yr 7 5 (opZ 5 0 2)⟩
  | _ => ⟨1, 9, 1, 0, 0, 0, 1, fun _ => Yr 7 8 (opZ 2 0 0)⟩
def exO : ah := { jw 0 with fr := 1 }
def exF : aj := ⟨1, fun _ => exS, 0, fun _ => Ta⟩
def exA : aj := dZ exF (jw 2)
def r9 : aj := dZ exA (jw 3)
def nT : aj := dZ r9 (jw 0)
def ou : aj := dZ nT (jw 1)
def exW (d : Int) : Nat -> aZ := fun _ => ⟨1, 2, 0, 0, 0, 0, fun _ _ => 0, d, 2, 0, fun _ _ => 0⟩
def g3 (x y z : Int) (i : Nat) : Int := if i = 0 then x else if i = 1 then y else z
theorem anK : gU exS = true := by kernel_rfl
theorem anW : iK exF (jw 2) = 0 := by kernel_rfl
theorem aot : iK exA (jw 3) = 0 := by kernel_rfl
theorem ajU : stU r9 7 = 0 /\ jL r9 7 = 0 := ⟨by kernel_rfl, by kernel_rfl⟩
theorem al6 : (Ai (r9.S 0) 2 r9.N 2) = [5,8] := by kernel_rfl
theorem anU : iK r9 (jw 0) = 0 := by kernel_rfl
theorem ZO : stU nT 7 = 7 /\ jL nT 7 = 0 := ⟨by kernel_rfl, by kernel_rfl⟩
theorem ano : iK nT (jw 1) = 0 := by kernel_rfl
theorem amT : Jy ou 7 9 = 0 /\ Jy ou 7 10 = 0 := ⟨by kernel_rfl, by kernel_rfl⟩
theorem Zi : iK ou (jw 0) = 5 /\ iK ou exO = 18 /\ jL ou 8 = 4 /\ fK ou = true := ⟨by kernel_rfl, by kernel_rfl, by kernel_rfl, by kernel_rfl⟩
theorem abQ : wL r9 7 = [7,9] /\ wL nT 7 = [9] := ⟨by kernel_rfl, by kernel_rfl⟩
theorem amF : oQ (jZ nT 7).q 3 (jZ nT 7).dn (g3 4 5 7) = true := by kernel_rfl
theorem ako : AL (jZ nT 7).n 1 (jZ nT 7).f (exW 20) = true := by kernel_rfl
theorem alW : AL (Hl ou 7 9) 1 (XB ou 7 9) (exW 20) = true := by kernel_rfl
theorem akK : AL (Hl ou 7 10) 1 (XB ou 7 10) (exW 5) = true := by kernel_rfl
theorem aol  : aA Tryz.prog 39 [] (.tup [jJ exF, .one (.lst 7 4 (eP jw))]) := by
  refine ak Tryz.func39 rfl (by rw [Tryz.ntmps39]; simp) ?_
  simp only [Tryz.ntmps39, zM, PT.tv, au, Nat.zero_add, Nat.reduceAdd]
  repeat' (first
 | ((with_reducible show AW _ _ _ _); first
 | (with_reducible first | refine aS (fun K hK => ?_) | refine aT ?_)
 | (first
 | (with_reducible first | refine aP 0 [] ?_ | refine aP 1 [0] ?_ | refine aP 2 [0,2] ?_ | refine aP 3 [0,2,3] ?_ | refine aP 4 [0,2,3,4] ?_ | refine aP 5 [0,2,3,4,5] ?_)
 | ((with_reducible refine vH (c := Code.region 6 _ true) [1,2,4,5,6,8,9,11,12,13,15,16,17] ?nd (aR [0,2,3,4,5,6] ?mn)); (case' mn => ((with_reducible refine aD ?_ ?_ ?_ ?_); (focus kernel_rfl); (focus kernel_rfl); (focus kernel_rfl))))))
 | ((first | (with_reducible refine And.intro ?_ ?_) | (with_reducible refine Need.mk ?_)); focus (exact True.intro))
 | (with_reducible refine aJ ?_)
 | ((with_reducible refine And.intro ?_ ?_); focus ((with_reducible show gW _ _ _ = true); kernel_rfl))
 | ((fail_if_success (with_reducible show AW _ _ _ _)); simp (maxSteps := 2000000) only [go_sem, reduceIte, reduceCtorEq, xA, xL, xD, xE, xM, xS, xB, Tryz.f39])
 | ((with_reducible refine hK _ ?_); clear hK K))
  all_goals (refine ⟨⟨⟨rfl, fun i o hi ho => ?_⟩, rfl⟩, fun i o hi ho => ?_⟩)
  · obtain rfl : i = 0 := (by omega)
    rcases (by omega : o = 0 \/ o = 1 \/ o = 2 \/ o = 3 \/ o = 4 \/ o = 5 \/ o = 6 \/ o = 7 \/ o = 8 \/ o = 9 \/ o = 10 \/ o = 11 \/ o = 12) with rfl | rfl | rfl | rfl | rfl | rfl | rfl | rfl | rfl | rfl | rfl | rfl | rfl
    · exact rfl
    · exact rfl
    · exact rfl
    · exact rfl
    · exact rfl
    · exact rfl
    · exact rfl
    · exact rfl
    · exact rfl
    · exact rfl
    · exact rfl
    · (refine ⟨rfl, rfl, fun a b ha hb => ?_⟩; obtain rfl : a = 0 := (by omega); obtain rfl : b = 0 := (by omega); rfl)
    · (refine ⟨rfl, rfl, fun a b ha hb => ?_⟩; obtain rfl : a = 0 := (by omega); rcases (by omega : b = 0 \/ b = 1 \/ b = 2 \/ b = 3 \/ b = 4 \/ b = 5 \/ b = 6 \/ b = 7 \/ b = 8) with rfl | rfl | rfl | rfl | rfl | rfl | rfl | rfl | rfl <;> first | rfl | exact ⟨rfl, rfl⟩)
  · rcases (by omega : i = 0 \/ i = 1 \/ i = 2 \/ i = 3) with rfl | rfl | rfl | rfl
    · rcases (by omega : o = 0 \/ o = 1 \/ o = 2 \/ o = 3 \/ o = 4 \/ o = 5 \/ o = 6) with rfl | rfl | rfl | rfl | rfl | rfl | rfl
      · exact rfl
      · exact rfl
      · exact rfl
      · exact rfl
      · exact rfl
      · exact rfl
      · (refine ⟨rfl, rfl, fun p u hp hu => ?_⟩; obtain rfl : p = 0 := (by omega); rcases (by omega : u = 0 \/ u = 1 \/ u = 2) with rfl | rfl | rfl; exact rfl; (refine ⟨rfl, rfl, fun a b ha hb => ?_⟩; obtain rfl : a = 0 := (by omega); obtain rfl : b = 0 := (by omega); rfl); (refine ⟨rfl, rfl, fun a b ha hb => ?_⟩; obtain rfl : a = 0 := (by omega); rcases (by omega : b = 0 \/ b = 1 \/ b = 2 \/ b = 3 \/ b = 4 \/ b = 5 \/ b = 6 \/ b = 7 \/ b = 8 \/ b = 9 \/ b = 10 \/ b = 11 \/ b = 12 \/ b = 13 \/ b = 14 \/ b = 15) with rfl | rfl | rfl | rfl | rfl | rfl | rfl | rfl | rfl | rfl | rfl | rfl | rfl | rfl | rfl | rfl <;> first | rfl | exact ⟨rfl, rfl⟩))
    · rcases (by omega : o = 0 \/ o = 1 \/ o = 2 \/ o = 3 \/ o = 4 \/ o = 5 \/ o = 6) with rfl | rfl | rfl | rfl | rfl | rfl | rfl
      · exact rfl
      · exact rfl
      · exact rfl
      · exact rfl
      · exact rfl
      · exact rfl
      · (refine ⟨rfl, rfl, fun p u hp hu => ?_⟩; obtain rfl : p = 0 := (by omega); rcases (by omega : u = 0 \/ u = 1 \/ u = 2) with rfl | rfl | rfl; exact rfl; exact ⟨rfl, rfl⟩; (refine ⟨rfl, rfl, fun a b ha hb => ?_⟩; obtain rfl : a = 0 := (by omega); rcases (by omega : b = 0 \/ b = 1 \/ b = 2 \/ b = 3 \/ b = 4 \/ b = 5 \/ b = 6 \/ b = 7 \/ b = 8 \/ b = 9 \/ b = 10 \/ b = 11 \/ b = 12 \/ b = 13 \/ b = 14 \/ b = 15) with rfl | rfl | rfl | rfl | rfl | rfl | rfl | rfl | rfl | rfl | rfl | rfl | rfl | rfl | rfl | rfl <;> first | rfl | exact ⟨rfl, rfl⟩))
    · rcases (by omega : o = 0 \/ o = 1 \/ o = 2 \/ o = 3 \/ o = 4 \/ o = 5 \/ o = 6) with rfl | rfl | rfl | rfl | rfl | rfl | rfl
      · exact rfl
      · exact rfl
      · exact rfl
      · exact rfl
      · exact rfl
      · exact rfl
      · (refine ⟨rfl, rfl, fun p u hp hu => ?_⟩; obtain rfl : p = 0 := (by omega); rcases (by omega : u = 0 \/ u = 1 \/ u = 2) with rfl | rfl | rfl; exact rfl; (refine ⟨rfl, rfl, fun a b ha hb => ?_⟩; obtain rfl : a = 0 := (by omega); obtain rfl : b = 0 := (by omega); rfl); (refine ⟨rfl, rfl, fun a b ha hb => ?_⟩; obtain rfl : a = 0 := (by omega); rcases (by omega : b = 0 \/ b = 1 \/ b = 2 \/ b = 3 \/ b = 4 \/ b = 5 \/ b = 6 \/ b = 7 \/ b = 8 \/ b = 9 \/ b = 10 \/ b = 11 \/ b = 12 \/ b = 13 \/ b = 14 \/ b = 15) with rfl | rfl | rfl | rfl | rfl | rfl | rfl | rfl | rfl | rfl | rfl | rfl | rfl | rfl | rfl | rfl <;> first | rfl | exact ⟨rfl, rfl⟩))
    · rcases (by omega : o = 0 \/ o = 1 \/ o = 2 \/ o = 3 \/ o = 4 \/ o = 5 \/ o = 6) with rfl | rfl | rfl | rfl | rfl | rfl | rfl
      · exact rfl
      · exact rfl
      · exact rfl
      · exact rfl
      · exact rfl
      · exact rfl
      · (refine ⟨rfl, rfl, fun p u hp hu => ?_⟩; obtain rfl : p = 0 := (by omega); rcases (by omega : u = 0 \/ u = 1 \/ u = 2) with rfl | rfl | rfl; exact rfl; (refine ⟨rfl, rfl, fun a b ha hb => ?_⟩; obtain rfl : a = 0 := (by omega); obtain rfl : b = 0 := (by omega); rfl); (refine ⟨rfl, rfl, fun a b ha hb => ?_⟩; obtain rfl : a = 0 := (by omega); rcases (by omega : b = 0 \/ b = 1 \/ b = 2 \/ b = 3 \/ b = 4 \/ b = 5 \/ b = 6 \/ b = 7 \/ b = 8 \/ b = 9 \/ b = 10 \/ b = 11 \/ b = 12 \/ b = 13 \/ b = 14 \/ b = 15) with rfl | rfl | rfl | rfl | rfl | rfl | rfl | rfl | rfl | rfl | rfl | rfl | rfl | rfl | rfl | rfl <;> first | rfl | exact ⟨rfl, rfl⟩))
theorem Bh (q : Nat) (a : Nat -> Int) (m : Nat) (G : Nat -> Int) (F : Nat -> Nat -> IV) (hq : q <= 9223372036854775807) (hm : m <= 9223372036854775807) (h : ∀ i o, i < m -> o < 1 -> (F i o).eqv (.g (.int .i64 (G i)))) : aA Tryz.prog 31 [.one (.lst 1 q (bn a)), .one (.lst 1 m F)] (.t (.one (.g (.bool (oQ q m a G))))) :=
  (Y8 q m a G hq hm).eqv (args' := [.one (.lst 1 q (bn a)), .one (.lst 1 m F)]) ⟨IV.bf _, ⟨rfl, rfl, h⟩, trivial⟩ (PV.bf _)
theorem Gp (n m : Nat) (f g : Nat -> aZ) (F : Nat -> Nat -> IV) (hn : n <= 9223372036854775807) (hm : m <= 9223372036854775807) (hf : ∀ i, i < n -> (f i).Ok) (hg : ∀ i, i < m -> (g i).Ok) (h : ∀ i o, i < m -> o < 9 -> (F i o).eqv (dN g i o)) : aA Tryz.prog 23 [.one (.lst 9 n (dN f)), .one (.lst 9 m F)] (.t (.one (.g (.bool (AL n m f g))))) :=
  (ND n m f g hn hm hf hg).eqv (args' := [.one (.lst 9 n (dN f)), .one (.lst 9 m F)]) ⟨IV.bf _, ⟨rfl, rfl, h⟩, trivial⟩ (PV.bf _)
theorem ahM : exS.Ok := Zv anK
theorem mo (i : Nat) : (jw i).Ok := by
  have hp : ∀ (kd d s af : Int), (Yr 7 af (opZ kd d s)).Ok := fun kd d s af => ⟨(show (if 0 < af then 1 else 0 : Nat) <= 9223372036854775807 from by split <;> decide), (show (1 : Nat) <= 9223372036854775807 from by decide), fun k hk => ql⟩
  rcases i with _ | _ | _ | i <;> exact ⟨(show (1 : Nat) <= 9223372036854775807 from by decide), fun j hj => hp _ _ _ _⟩
theorem ahS : exO.Ok := ⟨(mo 0).n, (mo 0).p⟩
theorem XO : exF.Ok := ⟨(show (1 : Nat) <= 9223372036854775807 from by decide), fun i _ => ahM, (show (0 : Nat) <= 9223372036854775807 from by decide), fun i h => absurd h (Nat.not_lt_zero i)⟩
theorem Xd : exA.Ok := mh XO (mo 2)
theorem EO : r9.Ok := mh Xd (mo 3)
theorem vN : nT.Ok := mh EO (mo 0)
theorem sP : ou.Ok := mh vN (mo 1)
theorem LH (d : Int) (i : Nat) : (exW d i).Ok := ⟨(show (0 : Nat) <= 9223372036854775807 from by decide), (show (0 : Nat) <= 9223372036854775807 from by decide)⟩
theorem afL : DU r9 7 = [5,8] := by
  rw [(agL ajU.2).2]
  show Lr (Ai (r9.S (jA r9 7)) r9.n r9.N r9.n) = _
  have e1 : jA r9 7 = 0 := by kernel_rfl
  have e2 : r9.n = 2 := by kernel_rfl
  rw [e1, e2, al6]
  exact (Mi (List.Perm.refl _) (by decide)).symm
theorem alg : Ai (nT.S 0) 3 nT.N 3 = [8] := by kernel_rfl
theorem af3 : DU nT 7 = [8] := by
  rw [(agL ZO.2).2]
  show Lr (Ai (nT.S (jA nT 7)) nT.n nT.N nT.n) = _
  have e1 : jA nT 7 = 0 := by kernel_rfl
  have e2 : nT.n = 3 := by kernel_rfl
  rw [e1, e2, alg]
  exact (Mi (List.Perm.refl _) (by decide)).symm
theorem amv : oQ (DU r9 7).length 2 (zL (DU r9 7)) (g3 5 8 0) = true := by rw [afL]; decide
theorem amH : oQ (DU nT 7).length 1 (zL (DU nT 7)) (g3 8 0 0) = true := by rw [af3]; decide
theorem alq : oQ (wL r9 7).length 2 (zL (wL r9 7)) (g3 7 9 0) = true := by rw [abQ.1]; decide
theorem amr : oQ (wL nT 7).length 1 (zL (wL nT 7)) (g3 9 0 0) = true := by rw [abQ.2]; decide
theorem Og : (DU r9 7).length <= 9223372036854775807 /\ (DU nT 7).length <= 9223372036854775807 /\ (wL r9 7).length <= 9223372036854775807 /\ (wL nT 7).length <= 9223372036854775807 := by rw [afL, af3, abQ.1, abQ.2]; decide
theorem KJ : (jZ nT 7).Ok := by rw [afE ZO.2]; exact vN.s _ (AY ZO.2).2.1
theorem FE (t : Int) : Hl ou 7 t <= 9223372036854775807 /\ ∀ i, i < Hl ou 7 t -> (XB ou 7 t i).Ok := by
  by_cases h : Jy ou 7 t = 0
  · have ha : jL ou 7 = 0 := by kernel_rfl
    have := Ma (f := ou) (ch := 7) (l := mP ou.n ou.N t) (sP.s _ (AY ha).2.1) (mP ou.n ou.N t).length
    unfold Hl XB; rw [if_pos h]; exact this
  · unfold Hl; rw [if_neg h]; exact ⟨Nat.zero_le _, fun i h => absurd h (Nat.not_lt_zero i)⟩
theorem agY : aA Tryz.prog 12 [jJ exF, .agg [.g (.int .i64 (jw 2).oc), .g (.int .i64 (jw 2).nu), .g (.int .i64 (jw 2).kd), .g (.int .i64 (jw 2).fr), .g (.int .i64 (jw 2).un), .g (.int .i64 (jw 2).ca), .lst 3 (jw 2).n (dK (jw 2).p)]] (.tup [jJ exA, .one (.g (.int .i64 (0)))]) := by
  have := jE exF XO (jw 2) (mo 2); rw [anW] at this; exact this
theorem ah2 : aA Tryz.prog 12 [jJ exA, .agg [.g (.int .i64 (jw 3).oc), .g (.int .i64 (jw 3).nu), .g (.int .i64 (jw 3).kd), .g (.int .i64 (jw 3).fr), .g (.int .i64 (jw 3).un), .g (.int .i64 (jw 3).ca), .lst 3 (jw 3).n (dK (jw 3).p)]] (.tup [jJ r9, .one (.g (.int .i64 (0)))]) := by
  have := jE exA Xd (jw 3) (mo 3); rw [aot] at this; exact this
theorem ahi : aA Tryz.prog 12 [jJ r9, .agg [.g (.int .i64 (jw 0).oc), .g (.int .i64 (jw 0).nu), .g (.int .i64 (jw 0).kd), .g (.int .i64 (jw 0).fr), .g (.int .i64 (jw 0).un), .g (.int .i64 (jw 0).ca), .lst 3 (jw 0).n (dK (jw 0).p)]] (.tup [jJ nT, .one (.g (.int .i64 (0)))]) := by
  have := jE r9 EO (jw 0) (mo 0); rw [anU] at this; exact this
theorem ahr : aA Tryz.prog 12 [jJ nT, .agg [.g (.int .i64 (jw 1).oc), .g (.int .i64 (jw 1).nu), .g (.int .i64 (jw 1).kd), .g (.int .i64 (jw 1).fr), .g (.int .i64 (jw 1).un), .g (.int .i64 (jw 1).ca), .lst 3 (jw 1).n (dK (jw 1).p)]] (.tup [jJ ou, .one (.g (.int .i64 (0)))]) := by
  have := jE nT vN (jw 1) (mo 1); rw [ano] at this; exact this
theorem aog : aA Tryz.prog 12 [jJ ou, .agg [.g (.int .i64 (jw 0).oc), .g (.int .i64 (jw 0).nu), .g (.int .i64 (jw 0).kd), .g (.int .i64 1), .g (.int .i64 (jw 0).un), .g (.int .i64 (jw 0).ca), .lst 3 (jw 0).n (dK (jw 0).p)]] (.tup [jJ (dZ ou exO), .one (.g (.int .i64 (18)))]) := by
  have := jE ou sP exO ahS; rw [Zi.2.1] at this; exact this
theorem aoa : aA Tryz.prog 12 [jJ ou, .agg [.g (.int .i64 (jw 0).oc), .g (.int .i64 (jw 0).nu), .g (.int .i64 (jw 0).kd), .g (.int .i64 (jw 0).fr), .g (.int .i64 (jw 0).un), .g (.int .i64 (jw 0).ca), .lst 3 (jw 0).n (dK (jw 0).p)]] (.tup [jJ (dZ ou (jw 0)), .one (.g (.int .i64 (5)))]) := by
  have := jE ou sP (jw 0) (mo 0); rw [Zi.1] at this; exact this
theorem aos : aA Tryz.prog 26 [.agg [.lst 13 ou.k (jq ou.S), .lst 7 ou.n (eP ou.N)]] (.t (.one (.g (.bool (true))))) := by
  have := IG ou sP; rw [Zi.2.2.2] at this; exact this
set_option maxHeartbeats 16000000 in
theorem jS  : aA Tryz.prog 10 [] (.t (.one (.g (.bool (true))))) := by
  refine ak Tryz.func10 rfl (by rw [Tryz.ntmps10]; simp) ?_
  simp only [Tryz.ntmps10, zM, PT.tv, au, Nat.zero_add, Nat.reduceAdd]
  repeat' (first
 | ((with_reducible show eu _ _ _ _ (some 45) _ _ _ _ _ _ _ _); (refine cB (k := 12) fD (agY) ?_ ?_))
 | ((with_reducible show eu _ _ _ _ (some 53) _ _ _ _ _ _ _ _); (refine cB (k := 12) fD (ah2) ?_ ?_))
 | ((with_reducible show aQ _ _ (some 58) _ _ _ _ _ _ _); (refine aF (k := 29) Fz (afY r9 EO 7) ?_ ?_))
 | ((with_reducible show aQ _ _ (some 64) _ _ _ _ _ _ _); (refine aF (k := 13) zi (aaw r9 EO 7) ?_ ?_))
 | ((with_reducible show eu _ _ _ _ (some 72) _ _ _ _ _ _ _ _); (refine cB (k := 12) fD (ahi) ?_ ?_))
 | ((with_reducible show aQ _ _ (some 77) _ _ _ _ _ _ _); (refine aF (k := 29) Fz (afY nT vN 7) ?_ ?_))
 | ((with_reducible show aQ _ _ (some 83) _ _ _ _ _ _ _); (refine aF (k := 13) zi (aaw nT vN 7) ?_ ?_))
 | ((with_reducible show aQ _ _ (some 88) _ _ _ _ _ _ _); (refine aF (k := 21) E9 (afP nT vN 7) ?_ ?_))
 | ((with_reducible show eu _ _ _ _ (some 96) _ _ _ _ _ _ _ _); (refine cB (k := 12) fD (ahr) ?_ ?_))
 | ((with_reducible show aQ _ _ (some 101) _ _ _ _ _ _ _); (refine aF (k := 20) Gr (afX ou sP 7 9) ?_ ?_))
 | ((with_reducible show aQ _ _ (some 106) _ _ _ _ _ _ _); (refine aF (k := 20) Gr (afX ou sP 7 10) ?_ ?_))
 | ((with_reducible show eu _ _ _ _ (some 114) _ _ _ _ _ _ _ _); (refine cB (k := 12) fD (aoa) ?_ ?_))
 | ((with_reducible show aQ _ _ (some 124) _ _ _ _ _ _ _); (refine aF (k := 12) fD (aog) ?_ ?_))
 | ((with_reducible show aQ _ _ (some 129) _ _ _ _ _ _ _); (refine aF (k := 21) E9 (afP ou sP 8) ?_ ?_))
 | ((with_reducible show bG _ _ _ (some 194) _ _ _ _ _ _); (refine aO (k := 31) qH (fun hg => Bh (DU r9 7).length (zL (DU r9 7)) 2 (g3 5 8 0) _ Og.1 (by omega) (fun i o hi ho => by obtain rfl : o = 0 := (by omega); rcases (by omega : i = 0 \/ i = 1) with rfl | rfl <;> rfl)) ?_ ?_))
 | ((with_reducible show bG _ _ _ (some 199) _ _ _ _ _ _); (refine aO (k := 31) qH (fun hg => Bh (wL r9 7).length (zL (wL r9 7)) 2 (g3 7 9 0) _ Og.2.2.1 (by omega) (fun i o hi ho => by obtain rfl : o = 0 := (by omega); rcases (by omega : i = 0 \/ i = 1) with rfl | rfl <;> rfl)) ?_ ?_))
 | ((with_reducible show bG _ _ _ (some 208) _ _ _ _ _ _); (refine aO (k := 31) qH (fun hg => Bh (DU nT 7).length (zL (DU nT 7)) 1 (g3 8 0 0) _ Og.2.1 (by omega) (fun i o hi ho => by obtain rfl : i = 0 := (by omega); obtain rfl : o = 0 := (by omega); rfl)) ?_ ?_))
 | ((with_reducible show bG _ _ _ (some 213) _ _ _ _ _ _); (refine aO (k := 31) qH (fun hg => Bh (wL nT 7).length (zL (wL nT 7)) 1 (g3 9 0 0) _ Og.2.2.2 (by omega) (fun i o hi ho => by obtain rfl : i = 0 := (by omega); obtain rfl : o = 0 := (by omega); rfl)) ?_ ?_))
 | ((with_reducible show bG _ _ _ (some 219) _ _ _ _ _ _); (refine aO (k := 31) qH (fun hg => Bh (jZ nT 7).q (jZ nT 7).dn 3 (g3 4 5 7) _ KJ.q (by omega) (fun i o hi ho => by obtain rfl : o = 0 := (by omega); rcases (by omega : i = 0 \/ i = 1 \/ i = 2) with rfl | rfl | rfl <;> rfl)) ?_ ?_))
 | ((with_reducible show bG _ _ _ (some 230) _ _ _ _ _ _); (refine aO (k := 23) uq (fun hg => Gp (jZ nT 7).n 1 (jZ nT 7).f (exW 20) _ KJ.n (by omega) KJ.f (fun i _ => LH 20 i) (fun i b hi ho => by obtain rfl : i = 0 := (by omega); rcases (by omega : b = 0 \/ b = 1 \/ b = 2 \/ b = 3 \/ b = 4 \/ b = 5 \/ b = 6 \/ b = 7 \/ b = 8) with rfl | rfl | rfl | rfl | rfl | rfl | rfl | rfl | rfl <;> first | rfl | exact ⟨rfl, rfl⟩)) ?_ ?_))
 | ((with_reducible show bG _ _ _ (some 236) _ _ _ _ _ _); (refine aO (k := 23) uq (fun hg => Gp (Hl ou 7 9) 1 (XB ou 7 9) (exW 20) _ (FE 9).1 (by omega) (FE 9).2 (fun i _ => LH 20 i) (fun i b hi ho => by obtain rfl : i = 0 := (by omega); rcases (by omega : b = 0 \/ b = 1 \/ b = 2 \/ b = 3 \/ b = 4 \/ b = 5 \/ b = 6 \/ b = 7 \/ b = 8) with rfl | rfl | rfl | rfl | rfl | rfl | rfl | rfl | rfl <;> first | rfl | exact ⟨rfl, rfl⟩)) ?_ ?_))
 | ((with_reducible show bG _ _ _ (some 242) _ _ _ _ _ _); (refine aO (k := 23) uq (fun hg => Gp (Hl ou 7 10) 1 (XB ou 7 10) (exW 5) _ (FE 10).1 (by omega) (FE 10).2 (fun i _ => LH 5 i) (fun i b hi ho => by obtain rfl : i = 0 := (by omega); rcases (by omega : b = 0 \/ b = 1 \/ b = 2 \/ b = 3 \/ b = 4 \/ b = 5 \/ b = 6 \/ b = 7 \/ b = 8) with rfl | rfl | rfl | rfl | rfl | rfl | rfl | rfl | rfl <;> first | rfl | exact ⟨rfl, rfl⟩)) ?_ ?_))
 | ((with_reducible show bG _ _ _ (some 246) _ _ _ _ _ _); (refine aO (k := 26) qB (fun hg => aos) ?_ ?_))
 | ((with_reducible show AW _ _ _ _); first
 | (with_reducible first | refine aS (fun K hK => ?_) | refine aT ?_)
 | (first
 | (with_reducible first | refine aP 0 [] ?_ | refine aP 1 [] ?_)
 | ((with_reducible refine aR (c := Code.region 2 _ true) [1,2] ?_); (with_reducible refine aD ?_ ?_ ?_ ?_); (focus kernel_rfl); (focus kernel_rfl); (focus kernel_rfl))
 | ((with_reducible refine aR (c := Code.region 3 _ true) [2,3,4] ?_); (with_reducible refine aD ?_ ?_ ?_ ?_); (focus kernel_rfl); (focus kernel_rfl); (focus kernel_rfl))
 | (with_reducible first | refine aP 4 [2,3,4,5] ?_ | refine aP 5 [2,3,4,5,6,7,8] ?_)
 | ((with_reducible refine aR (c := Code.region 6 _ true) [2,3,4,5,6,7,8,9,10] ?_); (with_reducible refine aD ?_ ?_ ?_ ?_); (focus kernel_rfl); (focus kernel_rfl); (focus kernel_rfl))
 | (with_reducible first | refine aP 7 [2,4,5,6,7,8,9,10,11,12] ?_ | refine aP 8 [2,4,5,6,7,8,9,10,11,12,13,14,15] ?_ | refine aP 9 [2,4,5,6,7,8,9,10,11,12,13,14,15,16,17] ?_)
 | ((with_reducible refine aR (c := Code.region 10 _ true) [2,4,5,6,7,8,9,10,11,12,13,14,15,16,17,18,19] ?_); (with_reducible refine aD ?_ ?_ ?_ ?_); (focus kernel_rfl); (focus kernel_rfl); (focus kernel_rfl))
 | (with_reducible first | refine aP 11 [2,4,5,6,7,8,9,10,12,13,14,15,16,17,18,19,20,21] ?_ | refine aP 12 [2,4,5,6,7,8,9,10,12,13,14,15,16,17,18,19,20,21,22,23] ?_)
 | ((with_reducible refine aR (c := Code.region 13 _ true) [2,4,5,6,7,8,9,10,12,13,14,15,16,17,18,19,20,21,22,23,24,25] ?_); (with_reducible refine aD ?_ ?_ ?_ ?_); (focus kernel_rfl); (focus kernel_rfl); (focus kernel_rfl))
 | (with_reducible first | refine aP 14 [2,4,5,6,7,8,9,10,12,13,14,15,16,17,18,19,20,21,22,23,24,25,27] ?_ | refine aP 15 [4,5,6,7,8,9,10,12,13,14,15,16,17,18,19,20,21,22,23,24,25,27,28] ?_ | refine aP 16 [4,5,6,7,8,9,10,12,13,14,15,16,17,18,19,20,21,22,23,24,25,27,28] ?_ | refine aP 17 [4,5,6,7,8,9,10,12,13,14,15,16,17,18,19,20,21,22,23,24,25,27,30] ?_ | refine aP 18 [4,5,6,7,8,9,10,12,13,14,15,16,17,18,19,20,21,22,23,24,25,27,30,32] ?_ | refine aP 19 [6,7,9,13,14,16,18,20,22,24,33] ?_ | refine aP 20 [18,20,22,24,33] ?_ | refine aP 21 [18,20,22,24,33,34] ?_ | refine aP 22 [18,20,22,24,33,34,35] ?_ | refine aP 23 [18,20,22,24,33,34,35] ?_)))
 | ((first | (with_reducible refine And.intro ?_ ?_) | (with_reducible refine Need.mk ?_)); focus (first | exact True.intro | omega | (intro _; exact True.intro)))
 | (with_reducible refine aJ ?_)
 | ((with_reducible refine And.intro ?_ ?_); focus ((with_reducible show gW _ _ _ = true); kernel_rfl))
 | ((with_reducible show aQ _ _ _ _ _ _ _ _ _ _); first
 | (refine aF (k := 39) NS (aol) ?_ ?_))
 | ((fail_if_success (with_reducible show AW _ _ _ _)); simp (maxSteps := 2000000) only [go_sem, reduceIte, reduceCtorEq, xA, xL, xD, xE, xM, xS, xB, Tryz.f10, bR, bP, bV, bU, bX, bY, bQ, bS, bW, bT, bC, bB, bF, bn, Int.reduceToNat, Int.cast_ofNat_Int, Bool.and_self, Int.natCast_zero, Int.ofNat_zero, ajU.1, ajU.2, ZO.1, ZO.2, amT.1, amT.2, Zi.2.2.1, Zi.2.2.2, amF, ako, alW, akK, amv, amH, alq, amr])
 | ((with_reducible refine hK _ ?_); clear hK K))
end Go.Proofs.YtcfechepbamhkaaGreat
set_option maxRecDepth 100000
set_option maxHeartbeats 4000000
namespace Go.Proofs.YtcfechepbamhkaaGreat
open Go.RowKit Go.Sea
open Nat renaming reduceAdd -> xA, reduceLT -> xL, reduceLeDiff -> xD, reduceEqDiff -> xE, reduceMul -> xM, reduceSub -> xS, reduceBEq -> xB
theorem iI : aN Tryz.prog 10 = true := by kernel_rfl
theorem dV : aN Tryz.prog 11 = true := by kernel_rfl
theorem Oc : aN Tryz.prog 17 = true := by kernel_rfl
theorem abz : aN Tryz.prog 25 = true := by kernel_rfl
theorem aeR : aN Tryz.prog 30 = true := by kernel_rfl
theorem ac7 : aN Tryz.prog 32 = true := by kernel_rfl
theorem adf : aN Tryz.prog 33 = true := by kernel_rfl
theorem acn : aN Tryz.prog 34 = true := by kernel_rfl
theorem adj : aN Tryz.prog 35 = true := by kernel_rfl
theorem aeA : aN Tryz.prog 36 = true := by kernel_rfl
theorem aaG : aN Tryz.prog 37 = true := by kernel_rfl
attribute [go_sem] iI dV Oc abz aeR ac7 adf acn adj aeA aaG
theorem K9 (f : aj) (hf : f.Ok) (ch : Int) : (wL f ch).length <= 9223372036854775807 := by
  by_cases h : jL f ch = 0
  · rw [ajC h]; have := MZ (f.S (jA f ch)) f.N f.n; have := hf.n; omega
  · rw [aj0 h]; exact Nat.zero_le _
theorem anf (s : aH) (hs : s.Ok) : aA Tryz.prog 24 [.agg [.g (.int .i64 s.ch), .g (.int .i64 s.sc), .g (.int .i64 s.ed), .g (.int .i64 s.m.A), .g (.int .i64 s.m.B), .g (.int .i64 s.m.C), .g (.int .i64 s.m.D), .g (.int .i64 s.m.E), .g (.int .i64 s.m.F), .g (.int .i64 s.m.R), .g (.int .i64 s.cap), .lst 1 s.q (bn s.dn), .lst 9 s.n (dN s.f)], .agg [.g (.int .i64 s.ch), .g (.int .i64 s.sc), .g (.int .i64 s.ed), .g (.int .i64 s.m.A), .g (.int .i64 s.m.B), .g (.int .i64 s.m.C), .g (.int .i64 s.m.D), .g (.int .i64 s.m.E), .g (.int .i64 s.m.F), .g (.int .i64 s.m.R), .g (.int .i64 s.cap), .lst 1 s.q (bn s.dn), .lst 9 s.n (dN s.f)]] (.t (.one (.g (.bool (true))))) := by
  have := N8 s s hs hs; rw [WJ] at this; exact this
end Go.Proofs.YtcfechepbamhkaaGreat
set_option maxRecDepth 100000
set_option maxHeartbeats 4000000
namespace Go.Proofs.YtcfechepbamhkaaGreat
open Go.RowKit Go.Sea
open Nat renaming reduceAdd -> xA, reduceLT -> xL, reduceLeDiff -> xD, reduceEqDiff -> xE, reduceMul -> xM, reduceSub -> xS, reduceBEq -> xB
def twA (M : ah) (a : Int) : ah := { M with fr := a }
def twB (M : ah) (b : Int) : ah := { M with oc := b }
theorem Yg {M : ah} (h : M.Ok) (a : Int) : (twA M a).Ok := ⟨h.n, h.p⟩
theorem ZF {M : ah} (h : M.Ok) (b : Int) : (twB M b).Ok := ⟨h.n, h.p⟩
theorem anp {f : aj} {M : ah} (h : iK f M = 0) (a : Int) : iK (dZ f M) (twA M a) = 18 \/ iK (dZ f M) (twA M a) = 5 /\ (a == M.fr) = true \/ iK (dZ f M) (twA M a) = 1 /\ gD (twA M a) = false := by
  cases hb : gD (twA M a)
  · exact Or.inr (Or.inr ⟨aat hb, rfl⟩)
  · have := Jm h (K := twA M a) rfl hb rfl
    cases he : vk M (twA M a)
    · rw [he] at this; exact Or.inl this
    · rw [he] at this
      exact Or.inr (Or.inl ⟨this, beq_iff_eq.2 (ai1 he).1⟩)
theorem anY {f : aj} {M : ah} (h : iK f M = 0) (b : Int) : iK (dZ f M) (twB M b) = 12 \/ iK (dZ f M) (twB M b) = 5 /\ (b == M.oc) = true \/ iK (dZ f M) (twB M b) = 1 /\ gD (twB M b) = false := by
  cases hb : gD (twB M b)
  · exact Or.inr (Or.inr ⟨aat hb, rfl⟩)
  · by_cases ho : b = M.oc
    · have e : twB M b = M := by unfold twB; rw [ho]
      rw [e]
      exact Or.inr (Or.inl ⟨Ht h, by simpa using ho⟩)
    · exact Or.inl (aaI h hb ho)
def FZ (f : aj) (M : ah) (j : Nat) : Nat := if j <= iy f M then j else j - 1
theorem UK (f : aj) (M : ah) : FZ f M 0 = 0 := if_pos (Nat.zero_le _)
theorem al2 {f : aj} {M : ah} (h : iK f M = 0) {j : Nat} (hj : j < f.n + 1) : (((dZ f M).N j).nu = M.nu -> j = iy f M) /\ (j ≠ iy f M -> (dZ f M).N j = f.N (FZ f M j) /\ FZ f M j < f.n /\ FZ f M (j + 1) = FZ f M j + 1) := by
  have ho := Iz h
  have hJ := ku f M
  rw [(Bu h).2]
  show ((pU f (iy f M) M j).nu = M.nu -> _) /\ (_ -> pU f (iy f M) M j = _ /\ _)
  rcases Nat.lt_trichotomy j (iy f M) with g | g | g
  · rw [pO g]
    refine ⟨fun e => absurd e (by have := ho.lo g; omega), fun _ => ?_⟩
    unfold FZ; rw [if_pos (by omega), if_pos (by omega)]; exact ⟨rfl, by omega, rfl⟩
  · exact ⟨fun _ => g, fun q => absurd g q⟩
  · rw [vF g]
    refine ⟨fun e => absurd e (by have := ho.hi (i := j - 1) (by omega) (by omega); omega), fun _ => ?_⟩
    unfold FZ; rw [if_neg (by omega), if_neg (by omega)]; exact ⟨rfl, by omega, by omega⟩
theorem amn (f : aj) (M : ah) : FZ f M (iy f M + 1) = FZ f M (iy f M) := by unfold FZ; rw [if_neg (by omega), if_pos (Nat.le_refl _)]; rfl
theorem alU {f : aj} {M : ah} : FZ f M (f.n + 1) = f.n := by have := ku f M; unfold FZ; rw [if_neg (by omega)]; rfl
theorem ajx {f : aj} {M : ah} (h : iK f M ≠ 0) : Ig (dZ f M) uT = true := by rw [sJ h]; exact agw uT
theorem acH (M : ah) (ho : M.Ok) : (aj.mk 0 (fun _ => bq) 1 (fun _ => M)).Ok := ⟨(show (0 : Nat) <= 9223372036854775807 from by decide), fun i h => absurd h (Nat.not_lt_zero i), (show (1 : Nat) <= 9223372036854775807 from by decide), fun _ _ => ho⟩
theorem kW (M : ah) (ho : M.Ok) (G : Nat -> Nat -> IV) (hG : ∀ i o, i < 1 -> o < 7 -> (G i o).eqv (eP (fun _ => M) i o)) : aA Tryz.prog 11 [.agg [.g (.slice none 0 0), .lst 7 1 G]] (.t (.one (.g (.bool (iM (aj.mk 0 (fun _ => bq) 1 (fun _ => M))))))) :=
  (jH (aj.mk 0 (fun _ => bq) 1 (fun _ => M)) (acH M ho)).eqv (args' := [.agg [.g (.slice none 0 0), .lst 7 1 G]]) ⟨⟨⟨rfl, rfl⟩, ⟨rfl, rfl, hG⟩, trivial⟩, trivial⟩ (PV.bf _)
theorem amZ (f : aj) (hf : f.Ok) (h : Ig f uT = true) : aA Tryz.prog 17 [jJ f, .agg [.g (.slice none 0 0), .g (.slice none 0 0)]] (.t (.one (.g (.bool (true))))) := by
  have := (aks f hf uT OQ).eqv (args' := [jJ f, .agg [.g (.slice none 0 0), .g (.slice none 0 0)]]) ⟨PT.bf _, ⟨⟨rfl, rfl⟩, ⟨rfl, rfl⟩, trivial⟩, trivial⟩ (PV.bf _)
  rw [h] at this; exact this
theorem ant (f : aj) (hf : f.Ok) (M : ah) (ho : M.Ok) (a b : Int) (h1 : iM f = false) : aA Tryz.prog 4 [jJ f, .agg [.g (.int .i64 M.oc), .g (.int .i64 M.nu), .g (.int .i64 M.kd), .g (.int .i64 M.fr), .g (.int .i64 M.un), .g (.int .i64 M.ca), .lst 3 M.n (dK M.p)], .one (.g (.int .i64 a)), .one (.g (.int .i64 b))] (.t (.one (.g (.bool (true))))) := by
  refine ak Tryz.func4 rfl (by rw [Tryz.ntmps4]; simp) ?_
  simp only [Tryz.ntmps4, zM, PT.tv, au, Nat.zero_add, Nat.reduceAdd]
  repeat' (first
 | ((with_reducible show aQ _ _ (some 21) _ _ _ _ _ _ _); (refine aF (k := 10) iI (jS) ?_ ?_))
 | ((with_reducible show aQ _ _ (some 23) _ _ _ _ _ _ _); (refine aF (k := 11) dV (jH f hf) ?_ ?_))
 | ((with_reducible show bG _ _ false _ _ _ _ _ _ _); (with_reducible refine iL (fun h => by cases h) (fun _ => ?_)))
 | ((with_reducible show mg _ _ false _ _ _ _); (with_reducible refine iV (fun h => by cases h) (fun _ => ?_)))
 | ((with_reducible show AW _ _ _ _); first
 | (with_reducible first | refine aS (fun K hK => ?_) | refine aT ?_ | refine aC ?_)
 | ((with_reducible first | refine aP 0 [0,1,2,3] ?_ | refine aP 1 [2,3,4,5] ?_ | refine aP 2 [2,3,4,5,9] ?_ | refine aP 3 [9] ?_)))
 | (((with_reducible refine Need.mk ?_)); focus (exact True.intro))
 | (with_reducible refine aJ ?_)
 | ((with_reducible show bL _ _ _ _ _ _); first
 | ((with_reducible refine aM ?_ ?_) <;> (intro hc; (try simp only [zB, zC, reduceCtorEq] at hc); (try (exfalso; contradiction)))))
 | ((fail_if_success (with_reducible show AW _ _ _ _)); simp (maxSteps := 2000000) only [go_sem, reduceIte, reduceCtorEq, xA, xL, xD, xE, xM, xS, xB, Tryz.f4, bR, bP, bV, bU, bX, bY, bQ, bS, bW, bT, bC, bB, bF, bn, Bool.and_self, h1])
 | ((with_reducible refine hK _ ?_); clear hK K))
theorem aod (f : aj) (hf : f.Ok) (M : ah) (ho : M.Ok) (a b : Int) (h1 : iM f = true) (h2 : iM (aj.mk 0 (fun _ => bq) 1 (fun _ => M)) = false) : aA Tryz.prog 4 [jJ f, .agg [.g (.int .i64 M.oc), .g (.int .i64 M.nu), .g (.int .i64 M.kd), .g (.int .i64 M.fr), .g (.int .i64 M.un), .g (.int .i64 M.ca), .lst 3 M.n (dK M.p)], .one (.g (.int .i64 a)), .one (.g (.int .i64 b))] (.t (.one (.g (.bool (true))))) := by
  refine ak Tryz.func4 rfl (by rw [Tryz.ntmps4]; simp) ?_
  simp only [Tryz.ntmps4, zM, PT.tv, au, Nat.zero_add, Nat.reduceAdd]
  repeat' (first
 | ((with_reducible show aQ _ _ (some 21) _ _ _ _ _ _ _); (refine aF (k := 10) iI (jS) ?_ ?_))
 | ((with_reducible show aQ _ _ (some 23) _ _ _ _ _ _ _); (refine aF (k := 11) dV (jH f hf) ?_ ?_))
 | ((with_reducible show bG _ _ _ (some 29) _ _ _ _ _ _); (refine aO (k := 11) dV (fun hg => kW M ho _ (fun i u hi hu => by obtain rfl : i = 0 := (by omega); rcases (by omega : u = 0 \/ u = 1 \/ u = 2 \/ u = 3 \/ u = 4 \/ u = 5 \/ u = 6) with rfl | rfl | rfl | rfl | rfl | rfl | rfl <;> exact IV.bf _)) ?_ ?_))
 | ((with_reducible show AW _ _ _ _); first
 | (with_reducible first | refine aS (fun K hK => ?_) | refine aT ?_ | refine aC ?_)
 | ((with_reducible first | refine aP 0 [0,1,2,3] ?_ | refine aP 1 [2,3,4,5] ?_ | refine aP 2 [2,3,4,5,9] ?_ | refine aP 3 [9] ?_)))
 | (((with_reducible refine Need.mk ?_)); focus (first | exact True.intro | (intro _; exact True.intro)))
 | (with_reducible refine aJ ?_)
 | ((with_reducible show bL _ _ _ _ _ _); first
 | ((with_reducible refine aM ?_ ?_) <;> (intro hc; (try simp only [zB, zC, reduceCtorEq] at hc); (try (exfalso; contradiction)))))
 | ((fail_if_success (with_reducible show AW _ _ _ _)); simp (maxSteps := 2000000) only [go_sem, reduceIte, reduceCtorEq, xA, xL, xD, xE, xM, xS, xB, Tryz.f4, bR, bP, bV, bU, bX, bY, bQ, bS, bW, bT, bC, bB, bF, bn, Bool.and_self, h1, h2])
 | ((with_reducible refine hK _ ?_); clear hK K))
theorem anH (f : aj) (hf : f.Ok) (M : ah) (ho : M.Ok) (a b : Int) (h1 : iM f = true) (h2 : iM (aj.mk 0 (fun _ => bq) 1 (fun _ => M)) = true) (h0 : iK f M ≠ 0) : aA Tryz.prog 4 [jJ f, .agg [.g (.int .i64 M.oc), .g (.int .i64 M.nu), .g (.int .i64 M.kd), .g (.int .i64 M.fr), .g (.int .i64 M.un), .g (.int .i64 M.ca), .lst 3 M.n (dK M.p)], .one (.g (.int .i64 a)), .one (.g (.int .i64 b))] (.t (.one (.g (.bool (true))))) := by
  have hn0 : (iK f M != 0) = true := bne_iff_ne.2 h0
  refine ak Tryz.func4 rfl (by rw [Tryz.ntmps4]; simp) ?_
  simp only [Tryz.ntmps4, zM, PT.tv, au, Nat.zero_add, Nat.reduceAdd]
  repeat' (first
 | ((with_reducible show aQ _ _ (some 21) _ _ _ _ _ _ _); (refine aF (k := 10) iI (jS) ?_ ?_))
 | ((with_reducible show aQ _ _ (some 23) _ _ _ _ _ _ _); (refine aF (k := 11) dV (jH f hf) ?_ ?_))
 | ((with_reducible show bG _ _ _ (some 29) _ _ _ _ _ _); (refine aO (k := 11) dV (fun hg => kW M ho _ (fun i u hi hu => by obtain rfl : i = 0 := (by omega); rcases (by omega : u = 0 \/ u = 1 \/ u = 2 \/ u = 3 \/ u = 4 \/ u = 5 \/ u = 6) with rfl | rfl | rfl | rfl | rfl | rfl | rfl <;> exact IV.bf _)) ?_ ?_))
 | ((with_reducible show aQ _ _ (some 36) _ _ _ _ _ _ _); (refine aF (k := 12) fD (jE f hf M ho) ?_ ?_))
 | ((with_reducible show bG _ _ _ (some 45) _ _ _ _ _ _); (refine aO (k := 17) Oc (fun hg => amZ (dZ f M) (mh hf ho) (ajx h0)) ?_ ?_))
 | ((with_reducible show AW _ _ _ _); first
 | (with_reducible first | refine aS (fun K hK => ?_) | refine aI ?_ | refine aT ?_ | refine aC ?_)
 | ((with_reducible first | refine aP 0 [0,1,2,3] ?_ | refine aP 1 [2,3,4,5] ?_ | refine aP 2 [2,3,4,5,9] ?_ | refine aP 4 [2,3,4,5,9] ?_ | refine aP 5 [2,3,4,5,9,10,11] ?_ | refine aP 6 [9,10] ?_)))
 | (((with_reducible refine Need.mk ?_)); focus (first | exact True.intro | (intro _; exact True.intro)))
 | (with_reducible refine aJ ?_)
 | ((with_reducible show bL _ _ _ _ _ _); first
 | ((with_reducible refine aM ?_ ?_) <;> (intro hc; (try simp only [zB, zC, reduceCtorEq] at hc); (try (exfalso; contradiction)))))
 | ((fail_if_success (with_reducible show AW _ _ _ _)); simp (maxSteps := 2000000) only [go_sem, reduceIte, reduceCtorEq, xA, xL, xD, xE, xM, xS, xB, Tryz.f4, bR, bP, bV, bU, bX, bY, bQ, bS, bW, bT, bC, bB, bF, bn, Bool.and_self, h1, h2, hn0])
 | ((with_reducible refine hK _ ?_); clear hK K))
theorem anM (f : aj) (hf : f.Ok) (M : ah) (ho : M.Ok) (a b : Int) (h1 : iM f = true) (h2 : iM (aj.mk 0 (fun _ => bq) 1 (fun _ => M)) = true) (h0 : iK f M = 0) : aA Tryz.prog 4 [jJ f, .agg [.g (.int .i64 M.oc), .g (.int .i64 M.nu), .g (.int .i64 M.kd), .g (.int .i64 M.fr), .g (.int .i64 M.un), .g (.int .i64 M.ca), .lst 3 M.n (dK M.p)], .one (.g (.int .i64 a)), .one (.g (.int .i64 b))] (.t (.one (.g (.bool (true))))) := by
  have hb1 : True := trivial
  have hb2 : True := trivial
  have hsx : True := trivial
  have mk1 : True := trivial
  have htw := Ht h0
  have hGo := mh hf ho
  have hgn := (Ez h0).2.1
  have hq8 : (((dZ f M).n : Int) == (f.n : Int) + 1) = true := beq_iff_eq.2 (by rw [hgn]; rfl)
  have hq9 : ((FZ f M (f.n + 1) : Int) == (f.n : Int)) = true := beq_iff_eq.2 (by rw [alU])
  have hn := hf.n
  have hn2 := (Iz h0).n
  have hw1 : IntKind.i64.wrap ((f.n : Int) + 1) = (f.n : Int) + 1 := by rw [IntKind.wrap_i64]; omega
  have he1 : True := trivial
  have he2 : True := trivial
  refine ak Tryz.func4 rfl (by rw [Tryz.ntmps4]; simp) ?_
  simp only [Tryz.ntmps4, zM, PT.tv, au, Nat.zero_add, Nat.reduceAdd]
  repeat' (first
 | ((with_reducible show aQ _ _ (some 50) _ _ _ _ _ _ _); clear mk1; rcases anp h0 a with he1 | ⟨he1, hb1⟩ | ⟨he1, hb1⟩ <;> rcases anY h0 b with he2 | ⟨he2, hb2⟩ | ⟨he2, hb2⟩)
 | ((with_reducible show aQ _ _ (some 21) _ _ _ _ _ _ _); (refine aF (k := 10) iI (jS) ?_ ?_))
 | ((with_reducible show aQ _ _ (some 23) _ _ _ _ _ _ _); (refine aF (k := 11) dV (jH f hf) ?_ ?_))
 | ((with_reducible show bG _ _ _ (some 29) _ _ _ _ _ _); (refine aO (k := 11) dV (fun hg => kW M ho _ (fun i u hi hu => by obtain rfl : i = 0 := (by omega); rcases (by omega : u = 0 \/ u = 1 \/ u = 2 \/ u = 3 \/ u = 4 \/ u = 5 \/ u = 6) with rfl | rfl | rfl | rfl | rfl | rfl | rfl <;> exact IV.bf _)) ?_ ?_))
 | ((with_reducible show aQ _ _ (some 36) _ _ _ _ _ _ _); (refine aF (k := 12) fD (jE f hf M ho) ?_ ?_))
 | ((with_reducible show aQ _ _ (some 50) _ _ _ _ _ _ _); (refine aF (k := 12) fD (jE (dZ f M) (mh hf ho) M ho) ?_ ?_))
 | ((with_reducible show aQ _ _ (some 74) _ _ _ _ _ _ _); (refine aF (k := 12) fD (jE (dZ f M) (mh hf ho) (twA M a) (Yg ho a)) ?_ ?_))
 | ((with_reducible show aQ _ _ (some 109) _ _ _ _ _ _ _); (refine aF (k := 12) fD (jE (dZ f M) (mh hf ho) (twB M b) (ZF ho b)) ?_ ?_))
 | ((with_reducible show bG _ _ _ (some 96) _ _ _ _ _ _); (refine aO (k := 18) iP (fun hg => nX (twA M a) (Yg ho a)) ?_ ?_))
 | ((with_reducible show bG _ _ _ (some 131) _ _ _ _ _ _); (refine aO (k := 18) iP (fun hg => nX (twB M b) (ZF ho b)) ?_ ?_))
 | ((with_reducible show iY _ _ _ _ _ (some 160) _ _ _ _ _ _ _); (refine gF (k := 19) zx (fun hg => aiD ((dZ f M).N j) M (hGo.nn j (by omega)) ho) ?_ ?_))
 | ((with_reducible show iY _ _ _ _ _ (some 187) _ _ _ _ _ _ _); (refine gF (k := 19) zx (fun hg => aiD ((dZ f M).N j) (f.N (FZ f M j)) (hGo.nn j (by omega)) (hf.nn _ (by omega))) ?_ ?_))
 | ((with_reducible show AW _ _ _ _); first
 | (with_reducible first | refine aS (fun K hK => ?_) | refine aI ?_ | refine aX ?_ | refine aT ?_ | refine aC ?_ | refine aB ?_)
 | (first
 | (with_reducible first | refine aP 0 [0,1,2,3] ?_ | refine aP 1 [2,3,4,5] ?_ | refine aP 2 [2,3,4,5,9] ?_ | refine aP 4 [2,3,4,5,9] ?_ | refine aP 5 [2,3,4,5,9,10,11] ?_ | refine aP 7 [2,3,4,5,9,10] ?_ | refine aP 8 [2,3,4,5,9,10,13] ?_ | refine aP 9 [2,3,4,5,9,10] ?_ | refine aP 10 [2,3,4,5,9,10,14] ?_ | refine aP 11 [2,3,4,5,9,10,14] ?_ | refine aP 12 [2,3,4,5,9,10,14,16] ?_ | refine aP 13 [3,4,5,9,10,14] ?_ | refine aP 14 [3,4,5,9,10,14] ?_ | refine aP 15 [3,4,5,9,10,14] ?_ | refine aP 16 [3,4,5,9,10,14,18] ?_ | refine aP 17 [4,5,9,10] ?_ | refine aP 18 [4,5,9,10,19] ?_ | refine aP 19 [4,5,9,10,19,20] ?_ | refine aP 20 [4,5,9,10,19,20] ?_)
 | ((with_reducible refine aR (c := Code.region 21 _ true) [4,5,9,10,19,20] ?_); (with_reducible refine aD ?_ ?_ ?_ ?_); (focus kernel_rfl); (focus kernel_rfl); (focus kernel_rfl))
 | ((with_reducible refine aR (c := Code.region 22 _ true) [4,5,9,10,19,20] ?_); (with_reducible refine aD ?_ ?_ ?_ ?_); (focus kernel_rfl); (focus kernel_rfl); (focus kernel_rfl))
 | ((with_reducible refine aR (c := Code.region 23 _ true) [4,5,9,10,19,20] ?_); (with_reducible refine aD ?_ ?_ ?_ ?_); (focus kernel_rfl); (focus kernel_rfl); (focus kernel_rfl))
 | (with_reducible first | refine aP 24 [4,5,9,10,19,20] ?_ | refine aP 25 [4,9,19] ?_))
 | ((with_reducible show AW _ (Code.loop _) _ _); first
 | ((with_reducible refine aL (c := (Code.seq (Code.seq (Code.region 19 _ _) _) _)) (ι := Nat) [4,5,10] (fun j => [(9, .t (.one (.iv (.g (.bool true))))), (19, iA .i64 (FZ f M j : Int)), (20, iA .i64 (j : Int))]) (fun j => []) (fun j => j <= f.n + 1) (fun j => f.n + 1 - j) 0 ?_ ?_ ?_ ?_ ?_); (case' refine_5 => rintro j hj KR hR19; simp only [bI, dI, hset, lk, if_true, if_false, xE, reduceIte, zN, bR, bP, bV, bU, bX, bY, bQ, bS, bW, bT, bC, bB, bF, Bool.and_self, h1, h2, h0, htw, hq8, hq9, hw1, UK, he1, he2, hb1, hb2, hsx]); (case' refine_4 => try (omega)); (case' refine_1 => rintro j _))))
 | ((first | (with_reducible refine And.intro ?_ ?_) | (with_reducible refine Need.mk ?_)); focus (first | exact True.intro | omega | (intro _; first | exact True.intro | (with_reducible assumption)) | (simp; done)))
 | (with_reducible refine aJ ?_)
 | ((with_reducible show bL _ _ _ _ _ _); first
 | ((with_reducible refine aM ?_ ?_) <;> (intro hc; (try simp only [zB, zC, reduceCtorEq] at hc); ((try (have e9 : j = f.n + 1 := (by omega); subst e9)); (try (have hjl : j < f.n + 1 := (by omega); have hnu := al2 h0 hjl; first | (have e0 : j = iy f M := hnu.1 (by assumption); have hsx : vk ((dZ f M).N j) M = true := (by rw [e0, (Ez h0).1]; exact Np M)) | (have hne : j ≠ iy f M := fun e => (by assumption : ((dZ f M).N j).nu ≠ M.nu) (by rw [e, (Ez h0).1]); have hnn := hnu.2 hne; have hsx : vk ((dZ f M).N j) (f.N (FZ f M j)) = true /\ decide ((FZ f M j : Int) < f.n) = true /\ min (FZ f M j : Int) (max 0 ((f.n : Int) - 1)) = (FZ f M j : Int) := ⟨by rw [hnn.1]; exact Np _, decide_eq_true (by omega), by omega⟩)))); (try (exfalso; contradiction)))))
 | ((with_reducible refine And.intro ?_ ?_); focus ((with_reducible show gW _ _ _ = true); kernel_rfl))
 | ((with_reducible refine hR19 _ (j + 1) ?_); (try clear hR19 KR))
 | ((with_reducible refine Told.mk ?_); simp only [go_sem, reduceIte, reduceCtorEq, xA, xL, xD, xE, xM, xS, xB, bR, bP, bV, bU, bX, bY, bQ, bS, bW, bT, bC, bB, bF, bn, Bool.and_self, h1, h2, h0, htw, hq8, hq9, hw1, UK, he1, he2, hb1, hb2, hsx] <;> ((((try simp (disch := omega) only [aV, Int.natCast_add, Int.cast_ofNat_Int, and_true, true_and, and_self]); (repeat' (first | omega | (with_reducible refine And.intro ?_ ?_) | ((rw [e0, amn])))); done))))
 | ((fail_if_success (with_reducible show AW _ _ _ _)); simp (maxSteps := 2000000) only [go_sem, reduceIte, reduceCtorEq, xA, xL, xD, xE, xM, xS, xB, Tryz.f4, bR, bP, bV, bU, bX, bY, bQ, bS, bW, bT, bC, bB, bF, bn, Bool.and_self, h1, h2, h0, htw, hq8, hq9, hw1, UK, he1, he2, hb1, hb2, hsx])
 | ((fail_if_success (with_reducible show AW _ _ _ _)); simp (disch := omega) only [aV, ig, iq])
 | ((with_reducible refine hK _ ?_); clear hK K)
 | (with_reducible apply_assumption -exfalso only [*]))
theorem aga (f : aj) (hf : f.Ok) (M : ah) (ho : M.Ok) (a b : Int) : aA Tryz.prog 4 [jJ f, .agg [.g (.int .i64 M.oc), .g (.int .i64 M.nu), .g (.int .i64 M.kd), .g (.int .i64 M.fr), .g (.int .i64 M.un), .g (.int .i64 M.ca), .lst 3 M.n (dK M.p)], .one (.g (.int .i64 a)), .one (.g (.int .i64 b))] (.t (.one (.g (.bool (true))))) := by
  cases h1 : iM f with
  | false => exact ant f hf M ho a b h1
  | true => cases h2 : iM (aj.mk 0 (fun _ => bq) 1 (fun _ => M)) with
    | false => exact aod f hf M ho a b h1 h2
    | true =>
      by_cases h0 : iK f M = 0
      · exact anM f hf M ho a b h1 h2 h0
      · exact anH f hf M ho a b h1 h2 h0
end Go.Proofs.YtcfechepbamhkaaGreat
set_option maxRecDepth 100000
set_option maxHeartbeats 4000000
namespace Go.Proofs.YtcfechepbamhkaaGreat
open Go.RowKit Go.Sea
open Nat renaming reduceAdd -> xA, reduceLT -> xL, reduceLeDiff -> xD, reduceEqDiff -> xE, reduceMul -> xM, reduceSub -> xS, reduceBEq -> xB
theorem aoc : lQ Tryz.prog 5 = some (false, 1) := by kernel_rfl
attribute [go_sem] aoc
def sh1 (f : aj) (k : Nat) : aj := ⟨1, fun i => f.S (k + i), f.n, f.N⟩
theorem KM {f : aj} (h : f.Ok) {k : Nat} (hk : k < f.k) : (sh1 f k).Ok := ⟨(show (1 : Nat) <= 9223372036854775807 from by decide), fun i hi => h.s (k + i) (by have hi' : i < 1 := hi; omega), h.n, h.nn⟩
theorem amE {f : aj} (h : fK f = true) {k : Nat} (hk : k < f.k) : fK (sh1 f k) = true := by
  have hv := iB h
  unfold fK
  rw [Bool.and_eq_true]
  exact ⟨decide_eq_true ⟨(show (1 : Nat) <= 20 from by decide), fun i hi => ⟨(hv.2.1 (k + i) (by have hi' : i < 1 := hi; omega)).1, fun h0 => by have hi' : i < 1 := hi; omega⟩⟩, hv.2.2⟩
theorem af5 {f : aj} {M : ah} (h : iK f M ≠ 1) : fK f = true /\ gD M = true := by
  unfold iK at h
  split at h
  · assumption
  · exact absurd rfl h
theorem Wn {f : aj} {M : ah} (h : iK f M ≠ 1) {k : Nat} (hk : k < f.k) : iK (sh1 f k) M = iK f M := by
  have hv := af5 h
  have hw := amE hv.1 hk
  unfold iK
  rw [if_pos ⟨hw, hv.2⟩, if_pos hv]; rfl
theorem am5 {f : aj} {M : ah} (h : iK f M = 0) {k : Nat} (hk : k < f.k) : (dZ (sh1 f k) M).S 0 = (dZ f M).S k /\ (dZ (sh1 f k) M).k = 1 /\ (dZ f M).k = f.k := by
  have h1 : iK (sh1 f k) M = 0 := by rw [Wn (by omega) hk]; exact h
  rw [yI h1, yI h]; exact ⟨rfl, rfl, rfl⟩
theorem anZ (f : aj) (hf : f.Ok) (M : ah) (ho : M.Ok) (a : Int) (ha : 0 <= a /\ a <= 255) (h1 : iM f = false) : aA Tryz.prog 6 [jJ f, .agg [.g (.int .i64 M.oc), .g (.int .i64 M.nu), .g (.int .i64 M.kd), .g (.int .i64 M.fr), .g (.int .i64 M.un), .g (.int .i64 M.ca), .lst 3 M.n (dK M.p)], .one (.g (.int .u8 a))] (.t (.one (.g (.bool (true))))) := by
  refine ak Tryz.func6 rfl (by rw [Tryz.ntmps6]; simp) ?_
  simp only [Tryz.ntmps6, zM, PT.tv, au, Nat.zero_add, Nat.reduceAdd]
  repeat' (first
 | ((with_reducible show aQ _ _ (some 13) _ _ _ _ _ _ _); (refine aF (k := 10) iI (jS) ?_ ?_))
 | ((with_reducible show aQ _ _ (some 15) _ _ _ _ _ _ _); (refine aF (k := 11) dV (jH f hf) ?_ ?_))
 | ((with_reducible show bG _ _ false _ _ _ _ _ _ _); (with_reducible refine iL (fun h => by cases h) (fun _ => ?_)))
 | ((with_reducible show mg _ _ false _ _ _ _); (with_reducible refine iV (fun h => by cases h) (fun _ => ?_)))
 | ((with_reducible show AW _ _ _ _); first
 | (with_reducible first | refine aS (fun K hK => ?_) | refine aT ?_ | refine aC ?_)
 | ((with_reducible first | refine aP 0 [0,1,2] ?_ | refine aP 1 [2,3,4] ?_ | refine aP 2 [2,3,4,7] ?_ | refine aP 3 [7] ?_)))
 | (((with_reducible refine Need.mk ?_)); focus (exact True.intro))
 | (with_reducible refine aJ ?_)
 | ((with_reducible show bL _ _ _ _ _ _); first
 | ((with_reducible refine aM ?_ ?_) <;> (intro hc; (try simp only [zB, zC, reduceCtorEq] at hc); (try (exfalso; contradiction)))))
 | ((fail_if_success (with_reducible show AW _ _ _ _)); simp (maxSteps := 2000000) only [go_sem, reduceIte, reduceCtorEq, xA, xL, xD, xE, xM, xS, xB, Tryz.f6, bR, bP, bV, bU, bX, bY, bQ, bS, bW, bT, bC, bB, bF, bn, Bool.and_self, h1])
 | ((with_reducible refine hK _ ?_); clear hK K))
theorem an6 (f : aj) (hf : f.Ok) (M : ah) (ho : M.Ok) (a : Int) (ha : 0 <= a /\ a <= 255) (h1 : iM f = true) (h2 : iM (aj.mk 0 (fun _ => bq) 1 (fun _ => M)) = false) : aA Tryz.prog 6 [jJ f, .agg [.g (.int .i64 M.oc), .g (.int .i64 M.nu), .g (.int .i64 M.kd), .g (.int .i64 M.fr), .g (.int .i64 M.un), .g (.int .i64 M.ca), .lst 3 M.n (dK M.p)], .one (.g (.int .u8 a))] (.t (.one (.g (.bool (true))))) := by
  refine ak Tryz.func6 rfl (by rw [Tryz.ntmps6]; simp) ?_
  simp only [Tryz.ntmps6, zM, PT.tv, au, Nat.zero_add, Nat.reduceAdd]
  repeat' (first
 | ((with_reducible show aQ _ _ (some 13) _ _ _ _ _ _ _); (refine aF (k := 10) iI (jS) ?_ ?_))
 | ((with_reducible show aQ _ _ (some 15) _ _ _ _ _ _ _); (refine aF (k := 11) dV (jH f hf) ?_ ?_))
 | ((with_reducible show bG _ _ _ (some 21) _ _ _ _ _ _); (refine aO (k := 11) dV (fun hg => kW M ho _ (fun i u hi hu => by obtain rfl : i = 0 := (by omega); rcases (by omega : u = 0 \/ u = 1 \/ u = 2 \/ u = 3 \/ u = 4 \/ u = 5 \/ u = 6) with rfl | rfl | rfl | rfl | rfl | rfl | rfl <;> exact IV.bf _)) ?_ ?_))
 | ((with_reducible show AW _ _ _ _); first
 | (with_reducible first | refine aS (fun K hK => ?_) | refine aT ?_ | refine aC ?_)
 | ((with_reducible first | refine aP 0 [0,1,2] ?_ | refine aP 1 [2,3,4] ?_ | refine aP 2 [2,3,4,7] ?_ | refine aP 3 [7] ?_)))
 | (((with_reducible refine Need.mk ?_)); focus (first | exact True.intro | (intro _; exact True.intro)))
 | (with_reducible refine aJ ?_)
 | ((with_reducible show bL _ _ _ _ _ _); first
 | ((with_reducible refine aM ?_ ?_) <;> (intro hc; (try simp only [zB, zC, reduceCtorEq] at hc); (try (exfalso; contradiction)))))
 | ((fail_if_success (with_reducible show AW _ _ _ _)); simp (maxSteps := 2000000) only [go_sem, reduceIte, reduceCtorEq, xA, xL, xD, xE, xM, xS, xB, Tryz.f6, bR, bP, bV, bU, bX, bY, bQ, bS, bW, bT, bC, bB, bF, bn, Bool.and_self, h1, h2])
 | ((with_reducible refine hK _ ?_); clear hK K))
theorem aoh (f : aj) (hf : f.Ok) (M : ah) (ho : M.Ok) (a : Int) (ha : 0 <= a /\ a <= 255) (h1 : iM f = true) (h2 : iM (aj.mk 0 (fun _ => bq) 1 (fun _ => M)) = true) (h3 : f.k = 0) : aA Tryz.prog 6 [jJ f, .agg [.g (.int .i64 M.oc), .g (.int .i64 M.nu), .g (.int .i64 M.kd), .g (.int .i64 M.fr), .g (.int .i64 M.un), .g (.int .i64 M.ca), .lst 3 M.n (dK M.p)], .one (.g (.int .u8 a))] (.t (.one (.g (.bool (true))))) := by
  have hk9 : (((f.k : Int)) == 0) = true := beq_iff_eq.2 (by omega)
  refine ak Tryz.func6 rfl (by rw [Tryz.ntmps6]; simp) ?_
  simp only [Tryz.ntmps6, zM, PT.tv, au, Nat.zero_add, Nat.reduceAdd]
  repeat' (first
 | ((with_reducible show aQ _ _ (some 13) _ _ _ _ _ _ _); (refine aF (k := 10) iI (jS) ?_ ?_))
 | ((with_reducible show aQ _ _ (some 15) _ _ _ _ _ _ _); (refine aF (k := 11) dV (jH f hf) ?_ ?_))
 | ((with_reducible show bG _ _ _ (some 21) _ _ _ _ _ _); (refine aO (k := 11) dV (fun hg => kW M ho _ (fun i u hi hu => by obtain rfl : i = 0 := (by omega); rcases (by omega : u = 0 \/ u = 1 \/ u = 2 \/ u = 3 \/ u = 4 \/ u = 5 \/ u = 6) with rfl | rfl | rfl | rfl | rfl | rfl | rfl <;> exact IV.bf _)) ?_ ?_))
 | ((with_reducible show AW _ _ _ _); first
 | (with_reducible first | refine aS (fun K hK => ?_) | refine aT ?_ | refine aC ?_)
 | ((with_reducible first | refine aP 0 [0,1,2] ?_ | refine aP 1 [2,3,4] ?_ | refine aP 2 [2,3,4,7] ?_ | refine aP 3 [7] ?_)))
 | (((with_reducible refine Need.mk ?_)); focus (first | exact True.intro | (intro _; exact True.intro)))
 | (with_reducible refine aJ ?_)
 | ((with_reducible show bL _ _ _ _ _ _); first
 | ((with_reducible refine aM ?_ ?_) <;> (intro hc; (try simp only [zB, zC, reduceCtorEq] at hc); (try (exfalso; contradiction)))))
 | ((fail_if_success (with_reducible show AW _ _ _ _)); simp (maxSteps := 2000000) only [go_sem, reduceIte, reduceCtorEq, xA, xL, xD, xE, xM, xS, xB, Tryz.f6, bR, bP, bV, bU, bX, bY, bQ, bS, bW, bT, bC, bB, bF, bn, Bool.and_self, h1, h2, hk9])
 | ((with_reducible refine hK _ ?_); clear hK K))
theorem aox (f : aj) (hf : f.Ok) (M : ah) (ho : M.Ok) (a : Int) (ha : 0 <= a /\ a <= 255) (h1 : iM f = true) (h2 : iM (aj.mk 0 (fun _ => bq) 1 (fun _ => M)) = true) (h3 : 0 < f.k) (h0 : iK f M = 1) : aA Tryz.prog 6 [jJ f, .agg [.g (.int .i64 M.oc), .g (.int .i64 M.nu), .g (.int .i64 M.kd), .g (.int .i64 M.fr), .g (.int .i64 M.un), .g (.int .i64 M.ca), .lst 3 M.n (dK M.p)], .one (.g (.int .u8 a))] (.t (.one (.g (.bool (true))))) := by
  have hn := hf.n
  have hk := hf.k
  have hk0 : (((f.k : Int)) == 0) = false := beq_eq_false_iff_ne.2 (by omega)
  have hkl : a.toNat % f.k < f.k := Nat.mod_lt _ (by omega)
  have hmod : a % (f.k : Int) = ((a.toNat % f.k : Nat) : Int) := by rw [Int.natCast_emod, Int.toNat_of_nonneg ha.1]
  have hwp : IntKind.i64.wrap (((a.toNat % f.k : Nat) : Int) + 1) = ((a.toNat % f.k : Nat) : Int) + 1 := by rw [IntKind.wrap_i64]; omega
  have hd1 : (((a.toNat % f.k : Nat) : Int) + 1 - ((a.toNat % f.k : Nat) : Int)).toNat = 1 := by omega
  refine ak Tryz.func6 rfl (by rw [Tryz.ntmps6]; simp) ?_
  simp only [Tryz.ntmps6, zM, PT.tv, au, Nat.zero_add, Nat.reduceAdd]
  repeat' (first
 | ((with_reducible show aQ _ _ (some 13) _ _ _ _ _ _ _); (refine aF (k := 10) iI (jS) ?_ ?_))
 | ((with_reducible show aQ _ _ (some 15) _ _ _ _ _ _ _); (refine aF (k := 11) dV (jH f hf) ?_ ?_))
 | ((with_reducible show bG _ _ _ (some 21) _ _ _ _ _ _); (refine aO (k := 11) dV (fun hg => kW M ho _ (fun i u hi hu => by obtain rfl : i = 0 := (by omega); rcases (by omega : u = 0 \/ u = 1 \/ u = 2 \/ u = 3 \/ u = 4 \/ u = 5 \/ u = 6) with rfl | rfl | rfl | rfl | rfl | rfl | rfl <;> exact IV.bf _)) ?_ ?_))
 | ((with_reducible show aQ _ _ (some 40) _ _ _ _ _ _ _); (refine aF (k := 12) fD (jE f hf M ho) ?_ ?_))
 | ((with_reducible show eu _ _ _ _ (some 54) _ _ _ _ _ _ _ _); (refine cB (k := 12) fD (jE (sh1 f (a.toNat % f.k)) (KM hf hkl) M ho) ?_ ?_))
 | ((with_reducible show AW _ _ _ _); first
 | (with_reducible first | refine aS (fun K hK => ?_) | refine aI ?_ | refine aT ?_ | refine aC ?_)
 | (first
 | (with_reducible first | refine aP 0 [0,1,2] ?_ | refine aP 1 [2,3,4] ?_ | refine aP 2 [2,3,4,7] ?_ | refine aP 4 [2,3,4,7] ?_ | refine aP 5 [3,4,7,8] ?_)
 | ((with_reducible refine aR (c := Code.region 6 _ true) [3,4,7,8,9,10] ?_); (with_reducible refine aD ?_ ?_ ?_ ?_); (focus kernel_rfl); (focus kernel_rfl); (focus kernel_rfl))
 | (with_reducible first | refine aP 7 [3,7,8,9,10,11,12] ?_ | refine aP 8 [7] ?_)))
 | ((first | (with_reducible refine And.intro ?_ ?_) | (with_reducible refine Need.mk ?_)); focus (first | exact True.intro | omega | (intro _; exact True.intro)))
 | (with_reducible refine aJ ?_)
 | ((with_reducible show bL _ _ _ _ _ _); first
 | ((with_reducible refine aM ?_ ?_) <;> (intro hc; (try simp only [zB, zC, reduceCtorEq] at hc); (try (exfalso; contradiction)))))
 | ((with_reducible refine And.intro ?_ ?_); focus ((with_reducible show gW _ _ _ = true); kernel_rfl))
 | ((fail_if_success (with_reducible show AW _ _ _ _)); simp (maxSteps := 2000000) only [go_sem, reduceIte, reduceCtorEq, xA, xL, xD, xE, xM, xS, xB, Tryz.f6, bR, bP, bV, bU, bX, bY, bQ, bS, bW, bT, bC, bB, bF, bn, Bool.and_self, h1, h2, hk0, hmod, hwp, hd1, h0])
 | ((fail_if_success (with_reducible show AW _ _ _ _)); simp (disch := omega) only [aV, ig, iq])
 | ((with_reducible refine hK _ ?_); clear hK K))
theorem aof (f : aj) (hf : f.Ok) (M : ah) (ho : M.Ok) (a : Int) (ha : 0 <= a /\ a <= 255) (h1 : iM f = true) (h2 : iM (aj.mk 0 (fun _ => bq) 1 (fun _ => M)) = true) (h3 : 0 < f.k) (h0 : iK f M ≠ 1) (h9 : iK f M ≠ 0) : aA Tryz.prog 6 [jJ f, .agg [.g (.int .i64 M.oc), .g (.int .i64 M.nu), .g (.int .i64 M.kd), .g (.int .i64 M.fr), .g (.int .i64 M.un), .g (.int .i64 M.ca), .lst 3 M.n (dK M.p)], .one (.g (.int .u8 a))] (.t (.one (.g (.bool (true))))) := by
  have hn := hf.n
  have hk := hf.k
  have hk0 : (((f.k : Int)) == 0) = false := beq_eq_false_iff_ne.2 (by omega)
  have hkl : a.toNat % f.k < f.k := Nat.mod_lt _ (by omega)
  have hmod : a % (f.k : Int) = ((a.toNat % f.k : Nat) : Int) := by rw [Int.natCast_emod, Int.toNat_of_nonneg ha.1]
  have hwp : IntKind.i64.wrap (((a.toNat % f.k : Nat) : Int) + 1) = ((a.toNat % f.k : Nat) : Int) + 1 := by rw [IntKind.wrap_i64]; omega
  have hd1 : (((a.toNat % f.k : Nat) : Int) + 1 - ((a.toNat % f.k : Nat) : Int)).toNat = 1 := by omega
  have he1 : (iK f M == 1) = false := beq_eq_false_iff_ne.2 h0
  have he2 : (iK f M != 0) = true := bne_iff_ne.2 h9
  have hs1 := Wn h0 hkl
  refine ak Tryz.func6 rfl (by rw [Tryz.ntmps6]; simp) ?_
  simp only [Tryz.ntmps6, zM, PT.tv, au, Nat.zero_add, Nat.reduceAdd]
  repeat' (first
 | ((with_reducible show aQ _ _ (some 13) _ _ _ _ _ _ _); (refine aF (k := 10) iI (jS) ?_ ?_))
 | ((with_reducible show aQ _ _ (some 15) _ _ _ _ _ _ _); (refine aF (k := 11) dV (jH f hf) ?_ ?_))
 | ((with_reducible show bG _ _ _ (some 21) _ _ _ _ _ _); (refine aO (k := 11) dV (fun hg => kW M ho _ (fun i u hi hu => by obtain rfl : i = 0 := (by omega); rcases (by omega : u = 0 \/ u = 1 \/ u = 2 \/ u = 3 \/ u = 4 \/ u = 5 \/ u = 6) with rfl | rfl | rfl | rfl | rfl | rfl | rfl <;> exact IV.bf _)) ?_ ?_))
 | ((with_reducible show aQ _ _ (some 40) _ _ _ _ _ _ _); (refine aF (k := 12) fD (jE f hf M ho) ?_ ?_))
 | ((with_reducible show eu _ _ _ _ (some 54) _ _ _ _ _ _ _ _); (refine cB (k := 12) fD (jE (sh1 f (a.toNat % f.k)) (KM hf hkl) M ho) ?_ ?_))
 | ((with_reducible show AW _ _ _ _); first
 | (with_reducible first | refine aS (fun K hK => ?_) | refine aI ?_ | refine aT ?_ | refine aC ?_)
 | (first
 | (with_reducible first | refine aP 0 [0,1,2] ?_ | refine aP 1 [2,3,4] ?_ | refine aP 2 [2,3,4,7] ?_ | refine aP 4 [2,3,4,7] ?_ | refine aP 5 [3,4,7,8] ?_)
 | ((with_reducible refine aR (c := Code.region 6 _ true) [3,4,7,8,9,10] ?_); (with_reducible refine aD ?_ ?_ ?_ ?_); (focus kernel_rfl); (focus kernel_rfl); (focus kernel_rfl))
 | (with_reducible first | refine aP 7 [3,7,8,9,10,11,12] ?_ | refine aP 9 [3,7,8,9,10,11,12] ?_ | refine aP 10 [7,10,12] ?_)))
 | ((first | (with_reducible refine And.intro ?_ ?_) | (with_reducible refine Need.mk ?_)); focus (first | exact True.intro | omega | (intro _; exact True.intro)))
 | (with_reducible refine aJ ?_)
 | ((with_reducible show bL _ _ _ _ _ _); first
 | ((with_reducible refine aM ?_ ?_) <;> (intro hc; (try simp only [zB, zC, reduceCtorEq] at hc); (try (exfalso; contradiction)))))
 | ((with_reducible refine And.intro ?_ ?_); focus ((with_reducible show gW _ _ _ = true); kernel_rfl))
 | ((fail_if_success (with_reducible show AW _ _ _ _)); simp (maxSteps := 2000000) only [go_sem, reduceIte, reduceCtorEq, xA, xL, xD, xE, xM, xS, xB, Tryz.f6, bR, bP, bV, bU, bX, bY, bQ, bS, bW, bT, bC, bB, bF, bn, Bool.and_self, h1, h2, hk0, hmod, hwp, hd1, he1, he2, hs1])
 | ((fail_if_success (with_reducible show AW _ _ _ _)); simp (disch := omega) only [aV, ig, iq])
 | ((with_reducible refine hK _ ?_); clear hK K))
theorem aoe (f : aj) (hf : f.Ok) (M : ah) (ho : M.Ok) (a : Int) (ha : 0 <= a /\ a <= 255) (h1 : iM f = true) (h2 : iM (aj.mk 0 (fun _ => bq) 1 (fun _ => M)) = true) (h3 : 0 < f.k) (h0 : iK f M = 0) : aA Tryz.prog 6 [jJ f, .agg [.g (.int .i64 M.oc), .g (.int .i64 M.nu), .g (.int .i64 M.kd), .g (.int .i64 M.fr), .g (.int .i64 M.un), .g (.int .i64 M.ca), .lst 3 M.n (dK M.p)], .one (.g (.int .u8 a))] (.t (.one (.g (.bool (true))))) := by
  have hn := hf.n
  have hk := hf.k
  have hk0 : (((f.k : Int)) == 0) = false := beq_eq_false_iff_ne.2 (by omega)
  have hkl : a.toNat % f.k < f.k := Nat.mod_lt _ (by omega)
  have hmod : a % (f.k : Int) = ((a.toNat % f.k : Nat) : Int) := by rw [Int.natCast_emod, Int.toNat_of_nonneg ha.1]
  have hwp : IntKind.i64.wrap (((a.toNat % f.k : Nat) : Int) + 1) = ((a.toNat % f.k : Nat) : Int) + 1 := by rw [IntKind.wrap_i64]; omega
  have hd1 : (((a.toNat % f.k : Nat) : Int) + 1 - ((a.toNat % f.k : Nat) : Int)).toNat = 1 := by omega
  have hone : (((1 : Nat) : Int) == 1) = true := rfl
  have hs1 := Wn (f := f) (M := M) (by omega) hkl
  have hs2 := am5 h0 hkl
  refine ak Tryz.func6 rfl (by rw [Tryz.ntmps6]; simp) ?_
  simp only [Tryz.ntmps6, zM, PT.tv, au, Nat.zero_add, Nat.reduceAdd]
  repeat' (first
 | ((with_reducible show aQ _ _ (some 13) _ _ _ _ _ _ _); (refine aF (k := 10) iI (jS) ?_ ?_))
 | ((with_reducible show aQ _ _ (some 15) _ _ _ _ _ _ _); (refine aF (k := 11) dV (jH f hf) ?_ ?_))
 | ((with_reducible show bG _ _ _ (some 21) _ _ _ _ _ _); (refine aO (k := 11) dV (fun hg => kW M ho _ (fun i u hi hu => by obtain rfl : i = 0 := (by omega); rcases (by omega : u = 0 \/ u = 1 \/ u = 2 \/ u = 3 \/ u = 4 \/ u = 5 \/ u = 6) with rfl | rfl | rfl | rfl | rfl | rfl | rfl <;> exact IV.bf _)) ?_ ?_))
 | ((with_reducible show aQ _ _ (some 40) _ _ _ _ _ _ _); (refine aF (k := 12) fD (jE f hf M ho) ?_ ?_))
 | ((with_reducible show eu _ _ _ _ (some 54) _ _ _ _ _ _ _ _); (refine cB (k := 12) fD (jE (sh1 f (a.toNat % f.k)) (KM hf hkl) M ho) ?_ ?_))
 | ((with_reducible show iY _ _ _ _ _ (some 98) _ _ _ _ _ _ _); (refine gF (k := 24) FK (fun hg => anf ((dZ f M).S (a.toNat % f.k)) ((mh hf ho).s _ (by omega))) ?_ ?_))
 | ((with_reducible show AW _ _ _ _); first
 | (with_reducible first | refine aS (fun K hK => ?_) | refine aI ?_ | refine aT ?_ | refine aC ?_)
 | (first
 | (with_reducible first | refine aP 0 [0,1,2] ?_ | refine aP 1 [2,3,4] ?_ | refine aP 2 [2,3,4,7] ?_ | refine aP 4 [2,3,4,7] ?_ | refine aP 5 [3,4,7,8] ?_)
 | ((with_reducible refine aR (c := Code.region 6 _ true) [3,4,7,8,9,10] ?_); (with_reducible refine aD ?_ ?_ ?_ ?_); (focus kernel_rfl); (focus kernel_rfl); (focus kernel_rfl))
 | (with_reducible first | refine aP 7 [3,7,8,9,10,11,12] ?_ | refine aP 9 [3,7,8,9,10,11,12] ?_)
 | ((with_reducible refine aR (c := Code.region 11 _ true) [3,7,8,9,11,12] ?_); (with_reducible refine aD ?_ ?_ ?_ ?_); (focus kernel_rfl); (focus kernel_rfl); (focus kernel_rfl))))
 | ((first | (with_reducible refine And.intro ?_ ?_) | (with_reducible refine Need.mk ?_)); focus (first | exact True.intro | omega | (intro _; exact True.intro)))
 | (with_reducible refine aJ ?_)
 | ((with_reducible show bL _ _ _ _ _ _); first
 | ((with_reducible refine aM ?_ ?_) <;> (intro hc; (try simp only [zB, zC, reduceCtorEq] at hc); (try (exfalso; contradiction)))))
 | ((with_reducible refine And.intro ?_ ?_); focus ((with_reducible show gW _ _ _ = true); kernel_rfl))
 | ((fail_if_success (with_reducible show AW _ _ _ _)); simp (maxSteps := 2000000) only [go_sem, reduceIte, reduceCtorEq, xA, xL, xD, xE, xM, xS, xB, Tryz.f6, bR, bP, bV, bU, bX, bY, bQ, bS, bW, bT, bC, bB, bF, bn, Bool.and_self, h1, h2, hk0, hmod, hwp, hd1, h0, hs1, hs2.1, hs2.2.1, hs2.2.2, hone])
 | ((fail_if_success (with_reducible show AW _ _ _ _)); simp (disch := omega) only [aV, ig, iq])
 | ((with_reducible refine hK _ ?_); clear hK K))
theorem ahw (f : aj) (hf : f.Ok) (M : ah) (ho : M.Ok) (a : Int) (ha : 0 <= a /\ a <= 255) : aA Tryz.prog 6 [jJ f, .agg [.g (.int .i64 M.oc), .g (.int .i64 M.nu), .g (.int .i64 M.kd), .g (.int .i64 M.fr), .g (.int .i64 M.un), .g (.int .i64 M.ca), .lst 3 M.n (dK M.p)], .one (.g (.int .u8 a))] (.t (.one (.g (.bool (true))))) := by
  cases h1 : iM f with
  | false => exact anZ f hf M ho a ha h1
  | true => cases h2 : iM (aj.mk 0 (fun _ => bq) 1 (fun _ => M)) with
    | false => exact an6 f hf M ho a ha h1 h2
    | true =>
      rcases Nat.eq_zero_or_pos f.k with h3 | h3
      · exact aoh f hf M ho a ha h1 h2 h3
      · by_cases h0 : iK f M = 0
        · exact aoe f hf M ho a ha h1 h2 h3 h0
        · by_cases h9 : iK f M = 1
          · exact aox f hf M ho a ha h1 h2 h3 h9
          · exact aof f hf M ho a ha h1 h2 h3 h9 h0
end Go.Proofs.YtcfechepbamhkaaGreat
set_option maxRecDepth 100000
set_option maxHeartbeats 4000000
namespace Go.Proofs.YtcfechepbamhkaaGreat
open Go.RowKit Go.Sea
open Nat renaming reduceAdd -> xA, reduceLT -> xL, reduceLeDiff -> xD, reduceEqDiff -> xE, reduceMul -> xM, reduceSub -> xS, reduceBEq -> xB
theorem Nz {f : aj} (hv : fK f = true) {i : Nat} : ∀ j, i < j -> j < f.k -> (f.S i).ch < (f.S j).ch
  | 0, h, _ => absurd h (Nat.not_lt_zero i)
  | j + 1, h, hj => by
    have h1 := ((iB hv).2.1 (j + 1) hj).2 (Nat.succ_pos j)
    rw [Nat.add_sub_cancel] at h1
    by_cases e : i = j
    · rw [e]; exact h1
    · have := Nz hv (i := i) j (by omega) (by omega); omega
theorem afJ {f : aj} (hv : fK f = true) {i : Nat} (hi : i < f.k) : jA f (f.S i).ch = i /\ jL f (f.S i).ch = 0 := by
  have e : jA f (f.S i).ch = i := lC (b := fun j => decide ((f.S j).ch = (f.S i).ch)) (decide_eq_true rfl) (fun j hj => decide_eq_false (by have := Nz hv (i := j) i hj hi; omega)) _ hi
  refine ⟨e, ?_⟩
  have hc := acd ((iB hv).2.1 i hi).1
  unfold jL asB Oa
  rw [hv, decide_eq_true hc, e, if_pos hi]
  simp only [Bool.and_self, if_true]
  rw [if_neg (by omega)]
theorem NR {s : aH} {N : Nat -> ah} {x : Int} : ∀ {i : Nat}, x ∈ Qv s N i ↔ ∃ j, j < i /\ nJ s (N j) = true /\ (N j).nu = x
  | 0 => ⟨fun h => absurd h List.not_mem_nil, fun ⟨j, h, _⟩ => absurd h (Nat.not_lt_zero j)⟩
  | i + 1 => by
    have ih := @NR s N x i
    cases h : nJ s (N i)
    · rw [afN h, ih]
      exact ⟨fun ⟨j, h1, h2⟩ => ⟨j, by omega, h2⟩, fun ⟨j, h1, h2⟩ => ⟨j, by
        by_cases e : j = i
        · rw [e, h] at h2; exact absurd h2.1 (by simp)
        · omega, h2⟩⟩
    · rw [afp h, List.mem_append, ih, List.mem_singleton]
      constructor
      · rintro (⟨j, h1, h2⟩ | e)
        · exact ⟨j, by omega, h2⟩
        · exact ⟨i, by omega, h, e.symm⟩
      · rintro ⟨j, h1, h2⟩
        by_cases e : j = i
        · subst e; exact Or.inr h2.2.symm
        · exact Or.inl ⟨j, by omega, h2⟩
theorem ajV {f : aj} (hv : fK f = true) {i j : Nat} (hi : i < f.k) (hj : j < f.n) : gq (wL f (f.S i).ch).length (zL (wL f (f.S i).ch)) (f.N j).nu = nJ (f.S i) (f.N j) := by
  have hp := afJ hv hi
  have hn := (mM (iB hv).2.2).2
  rw [ab3, ajC hp.2, hp.1, Bool.eq_iff_iff, List.contains_iff_mem, NR]
  constructor
  · rintro ⟨m, h1, h2, h3⟩
    have : m = j := by
      rcases Nat.lt_trichotomy m j with g | g | g
      · have := qo hn j g hj; omega
      · exact g
      · have := qo hn m g h1; omega
    rw [<- this]; exact h2
  · intro h; exact ⟨j, hj, h, rfl⟩
theorem acM {q : Nat} {a : Nat -> Int} {x y : Int} (h : gq q a y = true) : gq (q + 1) (SX q a x) y = true := by
  obtain ⟨i, hi, e⟩ := of_decide_eq_true h
  rcases Nat.lt_or_ge i (kr (lM q a) x) with g | g
  · exact decide_eq_true ⟨i, by omega, by rw [(Mr g).1]; exact e⟩
  · exact decide_eq_true ⟨i + 1, by omega, by rw [UD (by omega) (by omega)]; exact e⟩
theorem Xa {s : aH} {n : Nat} {N : Nat -> ah} {y : Int} (h : gq s.q s.dn y = true) : ∀ {j : Nat}, goW s n N j -> gq (qZ s n N j).q (qZ s n N j).dn y = true
  | 0, _ => h
  | j + 1, hg => by
    have ih := Xa h (fun i hi => hg i (by omega) : goW s n N j)
    have h1 := Ns (hg j (Nat.lt_succ_self j))
    have e : qZ s n N (j + 1) = edS (qZ s n N j) (N (dH (qZ s n N j) n N)) := (UZ h1.2).1
    rw [e]; exact acM ih
theorem abB {s : aH} {n : Nat} {N : Nat -> ah} {y : Int} (h : gq s.q s.dn y = true) : gq (rQ s n N).q (rQ s n N).dn y = true := Xa h (Me s n N).1
theorem an2 {s : aH} {n : Nat} {N : Nat -> ah} (hs : gU s = true) (hN : uw n N = true) (hf : dH s n N = n) {j : Nat} (hj : j < n) (hw : nJ s (N j) = true) : oW s (N j) = 16 \/ oW s (N j) = 15 \/ oW s (N j) = 2 := by
  have h0 := YI (s := s) (n := n) (N := N) (j := j) (by omega)
  rw [hw, Bool.true_and] at h0
  have h0 := of_decide_eq_false h0
  have hb := ((mM hN).2 j hj).1
  unfold nJ kD at hw
  simp only [Bool.and_eq_true, Bool.not_eq_true', decide_eq_true_eq] at hw
  unfold oW at h0 ⊢
  rw [hs, hb] at h0 ⊢
  simp only [Bool.and_self, if_true] at h0 ⊢
  unfold edE at h0 ⊢
  rw [if_neg (by rw [hw.1.1]; omega), if_neg (by rw [hw.1.2]; simp)] at h0 ⊢
  unfold uH at h0 ⊢
  rw [if_neg (by rw [hw.2]; simp)] at h0 ⊢
  split at h0
  · rw [if_pos (by assumption)]; exact Or.inl rfl
  · rw [if_neg (by assumption)]
    split at h0
    · rw [if_pos (by assumption)]; exact Or.inr (Or.inr rfl)
    · rw [if_neg (by assumption)]
      split at h0
      · rw [if_pos (by assumption)]; exact Or.inr (Or.inl rfl)
      · exact absurd rfl h0
theorem YH {f : aj} {M : ah} (h : iK f M = 0) {i j : Nat} (hi : i < (dZ f M).k) (hj : j < (dZ f M).n) (hc : kD ((dZ f M).N j) ((dZ f M).S i).ch = true) :
    (nJ ((dZ f M).S i) ((dZ f M).N j) = false /\ gq ((dZ f M).S i).q ((dZ f M).S i).dn ((dZ f M).N j).nu = true) \/ (nJ ((dZ f M).S i) ((dZ f M).N j) = true /\ gq ((dZ f M).S i).q ((dZ f M).S i).dn ((dZ f M).N j).nu = false /\ (oW ((dZ f M).S i) ((dZ f M).N j) = 16 \/ oW ((dZ f M).S i) ((dZ f M).N j) = 15 \/ oW ((dZ f M).S i) ((dZ f M).N j) = 2)) := by
  have hv := (Bu h).1
  have hfix : dH ((dZ f M).S i) (dZ f M).n (dZ f M).N = (dZ f M).n := by
    have e := (Bu h).2; rw [e]; exact aeF (Tg f M) i
  cases hd : gq ((dZ f M).S i).q ((dZ f M).S i).dn ((dZ f M).N j).nu
  · have hw : nJ ((dZ f M).S i) ((dZ f M).N j) = true := by unfold nJ; rw [hc, hd]; rfl
    exact Or.inr ⟨hw, rfl, an2 ((iB hv).2.1 i hi).1 (iB hv).2.2 hfix hj hw⟩
  · exact Or.inl ⟨by unfold nJ; rw [hd]; simp, rfl⟩
theorem am3 {f : aj} {M : ah} (h : iK f M = 0) {i k : Nat} (hk : k < (f.S i).q) : gq ((dZ f M).S i).q ((dZ f M).S i).dn ((f.S i).dn k) = true := by
  rw [(Bu h).2]
  exact abB (decide_eq_true ⟨k, hk, rfl⟩)
theorem ake {f : aj} {M : ah} (h : iK f M = 0) {i : Nat} (hi : i < f.k) : ((dZ f M).S i).ch = (f.S i).ch := by
  rw [(Bu h).2]
  exact (ajL (f := Tg f M) (Iz h).g hi).1
theorem an4 (f : aj) (hf : f.Ok) (M : ah) (ho : M.Ok) (h1 : iM f = false) : aA Tryz.prog 3 [jJ f, .agg [.g (.int .i64 M.oc), .g (.int .i64 M.nu), .g (.int .i64 M.kd), .g (.int .i64 M.fr), .g (.int .i64 M.un), .g (.int .i64 M.ca), .lst 3 M.n (dK M.p)]] (.t (.one (.g (.bool (true))))) := by
  refine ak Tryz.func3 rfl (by rw [Tryz.ntmps3]; simp) ?_
  simp only [Tryz.ntmps3, zM, PT.tv, au, Nat.zero_add, Nat.reduceAdd]
  repeat' (first
 | ((with_reducible show aQ _ _ (some 17) _ _ _ _ _ _ _); (refine aF (k := 10) iI (jS) ?_ ?_))
 | ((with_reducible show aQ _ _ (some 19) _ _ _ _ _ _ _); (refine aF (k := 11) dV (jH f hf) ?_ ?_))
 | ((with_reducible show bG _ _ _ (some 25) _ _ _ _ _ _); (refine aO (k := 11) dV (fun hg => kW M ho _ (fun i u hi hu => by obtain rfl : i = 0 := (by omega); rcases (by omega : u = 0 \/ u = 1 \/ u = 2 \/ u = 3 \/ u = 4 \/ u = 5 \/ u = 6) with rfl | rfl | rfl | rfl | rfl | rfl | rfl <;> exact IV.bf _)) ?_ ?_))
 | ((with_reducible show aQ _ _ (some 32) _ _ _ _ _ _ _); (refine aF (k := 12) fD (jE f hf M ho) ?_ ?_))
 | ((with_reducible show bG _ _ false _ _ _ _ _ _ _); (with_reducible refine iL (fun h => by cases h) (fun _ => ?_)))
 | ((with_reducible show mg _ _ false _ _ _ _); (with_reducible refine iV (fun h => by cases h) (fun _ => ?_)))
 | ((with_reducible show AW _ _ _ _); first
 | (with_reducible first | refine aS (fun K hK => ?_) | refine aI ?_ | refine aX ?_ | refine aT ?_ | refine aC ?_ | refine aB ?_)
 | (first
 | (with_reducible first | refine aP 0 [0,1] ?_ | refine aP 1 [2,3] ?_ | refine aP 2 [2,3,5] ?_ | refine aP 3 [5] ?_ | refine aP 5 [2,5,6,7] ?_ | refine aP 6 [5,7] ?_ | refine aP 7 [2,5,6] ?_ | refine aP 8 [2,5,6,8] ?_ | refine aP 9 [2,5,6,8] ?_ | refine aP 10 [2,5,6,8] ?_ | refine aP 11 [2,5,6,8,9] ?_)
 | ((with_reducible refine aR (c := Code.region 12 _ true) [2,5,6,8,9,10,11] ?_); (with_reducible refine aD ?_ ?_ ?_ ?_); (focus kernel_rfl); (focus kernel_rfl); (focus kernel_rfl))
 | (with_reducible first | refine aP 13 [2,5,6,8,9,10] ?_ | refine aP 14 [2,5,6,8,9,10,12] ?_ | refine aP 15 [2,5,6,8,9,10,12] ?_)
 | ((with_reducible refine aR (c := Code.region 16 _ true) [2,5,6,8,9,10,12] ?_); (with_reducible refine aD ?_ ?_ ?_ ?_); (focus kernel_rfl); (focus kernel_rfl); (focus kernel_rfl))
 | (with_reducible first | refine aP 17 [2,5,6,8,9,10] ?_ | refine aP 18 [2,5,6,8,9,10,13] ?_ | refine aP 19 [2,5,6,8,9,10,13] ?_ | refine aP 20 [2,5,6,8,9,10,13] ?_ | refine aP 21 [2,5,6,8,9,10,13,14] ?_ | refine aP 22 [2,5,6,8,9,10,13,14] ?_)
 | ((with_reducible refine aR (c := Code.region 23 _ true) [2,5,6,8,9,10,13,14] ?_); (with_reducible refine aD ?_ ?_ ?_ ?_); (focus kernel_rfl); (focus kernel_rfl); (focus kernel_rfl))
 | (with_reducible first | refine aP 24 [2,5,6,8,9,10,13,14] ?_ | refine aP 25 [2,5,6,8,9,10,13,14,16] ?_ | refine aP 26 [2,5,6,8,9,10,13,16] ?_ | refine aP 27 [5] ?_)))
 | ((first | (with_reducible refine And.intro ?_ ?_) | (with_reducible refine Need.mk ?_)); focus (first | exact True.intro | (with_reducible assumption) | omega | (refine ⟨?_, ?_⟩ <;> omega) | (intro _; first | exact True.intro | (with_reducible assumption) | omega) | (intros; (repeat' (first | exact True.intro | omega | (with_reducible assumption) | (with_reducible refine And.intro ?_ ?_))); done) | (simp (disch := omega) only [Bool.and_eq_true, Bool.or_eq_true, decide_eq_true_eq, bne_iff_ne, ne_eq] at *; first | done | omega | (intros; omega)) | (simp; done) | (simp; omega) | (simp +contextual; done) | (intro h; rw [h]; rfl) | (intro hq; have hq2 := hq; simp only [Bool.and_eq_true, Bool.or_eq_true, Bool.not_eq_true', Bool.not_not, Bool.not_eq_false', decide_eq_true_eq, decide_eq_false_iff_not] at hq2; (repeat' (first | exact hq | (with_reducible refine And.intro ?_ ?_) | omega | (simp_all; done))); done) | (intros; simp_all; done)))
 | (with_reducible refine aJ ?_)
 | (with_reducible refine zR ?_)
 | (with_reducible refine wB rfl rfl rfl ?_)
 | (with_reducible refine zO rfl rfl rfl ?_)
 | ((with_reducible show bL _ _ _ _ _ _); first
 | ((with_reducible refine aM ?_ ?_) <;> (intro hc; (try simp only [zB, zC, reduceCtorEq] at hc); (try (exfalso; first | contradiction | omega)))))
 | ((with_reducible refine And.intro ?_ ?_); focus ((with_reducible show gW _ _ _ = true); kernel_rfl))
 | ((fail_if_success (with_reducible show AW _ _ _ _)); simp (maxSteps := 2000000) only [go_sem, reduceIte, reduceCtorEq, xA, xL, xD, xE, xM, xS, xB, Tryz.f3, bR, bP, bV, bU, bX, bY, bQ, bS, bW, bT, bC, bB, bF, bn, Bool.and_self, h1])
 | ((fail_if_success (with_reducible show AW _ _ _ _)); simp (disch := omega) only [aV, ig, iq])
 | ((with_reducible refine hK _ ?_); clear hK K))
theorem aob (f : aj) (hf : f.Ok) (M : ah) (ho : M.Ok) (h1 : iM f = true) (h2 : iM (aj.mk 0 (fun _ => bq) 1 (fun _ => M)) = false) : aA Tryz.prog 3 [jJ f, .agg [.g (.int .i64 M.oc), .g (.int .i64 M.nu), .g (.int .i64 M.kd), .g (.int .i64 M.fr), .g (.int .i64 M.un), .g (.int .i64 M.ca), .lst 3 M.n (dK M.p)]] (.t (.one (.g (.bool (true))))) := by
  refine ak Tryz.func3 rfl (by rw [Tryz.ntmps3]; simp) ?_
  simp only [Tryz.ntmps3, zM, PT.tv, au, Nat.zero_add, Nat.reduceAdd]
  repeat' (first
 | ((with_reducible show aQ _ _ (some 17) _ _ _ _ _ _ _); (refine aF (k := 10) iI (jS) ?_ ?_))
 | ((with_reducible show aQ _ _ (some 19) _ _ _ _ _ _ _); (refine aF (k := 11) dV (jH f hf) ?_ ?_))
 | ((with_reducible show bG _ _ _ (some 25) _ _ _ _ _ _); (refine aO (k := 11) dV (fun hg => kW M ho _ (fun i u hi hu => by obtain rfl : i = 0 := (by omega); rcases (by omega : u = 0 \/ u = 1 \/ u = 2 \/ u = 3 \/ u = 4 \/ u = 5 \/ u = 6) with rfl | rfl | rfl | rfl | rfl | rfl | rfl <;> exact IV.bf _)) ?_ ?_))
 | ((with_reducible show aQ _ _ (some 32) _ _ _ _ _ _ _); (refine aF (k := 12) fD (jE f hf M ho) ?_ ?_))
 | ((with_reducible show bG _ _ false _ _ _ _ _ _ _); (with_reducible refine iL (fun h => by cases h) (fun _ => ?_)))
 | ((with_reducible show mg _ _ false _ _ _ _); (with_reducible refine iV (fun h => by cases h) (fun _ => ?_)))
 | ((with_reducible show AW _ _ _ _); first
 | (with_reducible first | refine aS (fun K hK => ?_) | refine aI ?_ | refine aX ?_ | refine aT ?_ | refine aC ?_ | refine aB ?_)
 | (first
 | (with_reducible first | refine aP 0 [0,1] ?_ | refine aP 1 [2,3] ?_ | refine aP 2 [2,3,5] ?_ | refine aP 3 [5] ?_ | refine aP 5 [2,5,6,7] ?_ | refine aP 6 [5,7] ?_ | refine aP 7 [2,5,6] ?_ | refine aP 8 [2,5,6,8] ?_ | refine aP 9 [2,5,6,8] ?_ | refine aP 10 [2,5,6,8] ?_ | refine aP 11 [2,5,6,8,9] ?_)
 | ((with_reducible refine aR (c := Code.region 12 _ true) [2,5,6,8,9,10,11] ?_); (with_reducible refine aD ?_ ?_ ?_ ?_); (focus kernel_rfl); (focus kernel_rfl); (focus kernel_rfl))
 | (with_reducible first | refine aP 13 [2,5,6,8,9,10] ?_ | refine aP 14 [2,5,6,8,9,10,12] ?_ | refine aP 15 [2,5,6,8,9,10,12] ?_)
 | ((with_reducible refine aR (c := Code.region 16 _ true) [2,5,6,8,9,10,12] ?_); (with_reducible refine aD ?_ ?_ ?_ ?_); (focus kernel_rfl); (focus kernel_rfl); (focus kernel_rfl))
 | (with_reducible first | refine aP 17 [2,5,6,8,9,10] ?_ | refine aP 18 [2,5,6,8,9,10,13] ?_ | refine aP 19 [2,5,6,8,9,10,13] ?_ | refine aP 20 [2,5,6,8,9,10,13] ?_ | refine aP 21 [2,5,6,8,9,10,13,14] ?_ | refine aP 22 [2,5,6,8,9,10,13,14] ?_)
 | ((with_reducible refine aR (c := Code.region 23 _ true) [2,5,6,8,9,10,13,14] ?_); (with_reducible refine aD ?_ ?_ ?_ ?_); (focus kernel_rfl); (focus kernel_rfl); (focus kernel_rfl))
 | (with_reducible first | refine aP 24 [2,5,6,8,9,10,13,14] ?_ | refine aP 25 [2,5,6,8,9,10,13,14,16] ?_ | refine aP 26 [2,5,6,8,9,10,13,16] ?_ | refine aP 27 [5] ?_)))
 | ((first | (with_reducible refine And.intro ?_ ?_) | (with_reducible refine Need.mk ?_)); focus (first | exact True.intro | (with_reducible assumption) | omega | (refine ⟨?_, ?_⟩ <;> omega) | (intro _; first | exact True.intro | (with_reducible assumption) | omega) | (intros; (repeat' (first | exact True.intro | omega | (with_reducible assumption) | (with_reducible refine And.intro ?_ ?_))); done) | (simp (disch := omega) only [Bool.and_eq_true, Bool.or_eq_true, decide_eq_true_eq, bne_iff_ne, ne_eq] at *; first | done | omega | (intros; omega)) | (simp; done) | (simp; omega) | (simp +contextual; done) | (intro h; rw [h]; rfl) | (intro hq; have hq2 := hq; simp only [Bool.and_eq_true, Bool.or_eq_true, Bool.not_eq_true', Bool.not_not, Bool.not_eq_false', decide_eq_true_eq, decide_eq_false_iff_not] at hq2; (repeat' (first | exact hq | (with_reducible refine And.intro ?_ ?_) | omega | (simp_all; done))); done) | (intros; simp_all; done)))
 | (with_reducible refine aJ ?_)
 | (with_reducible refine zR ?_)
 | (with_reducible refine wB rfl rfl rfl ?_)
 | (with_reducible refine zO rfl rfl rfl ?_)
 | ((with_reducible show bL _ _ _ _ _ _); first
 | ((with_reducible refine aM ?_ ?_) <;> (intro hc; (try simp only [zB, zC, reduceCtorEq] at hc); (try (exfalso; first | contradiction | omega)))))
 | ((with_reducible refine And.intro ?_ ?_); focus ((with_reducible show gW _ _ _ = true); kernel_rfl))
 | ((fail_if_success (with_reducible show AW _ _ _ _)); simp (maxSteps := 2000000) only [go_sem, reduceIte, reduceCtorEq, xA, xL, xD, xE, xM, xS, xB, Tryz.f3, bR, bP, bV, bU, bX, bY, bQ, bS, bW, bT, bC, bB, bF, bn, Bool.and_self, h1, h2])
 | ((fail_if_success (with_reducible show AW _ _ _ _)); simp (disch := omega) only [aV, ig, iq])
 | ((with_reducible refine hK _ ?_); clear hK K))
theorem aoq (f : aj) (hf : f.Ok) (M : ah) (ho : M.Ok) (h1 : iM f = true) (h2 : iM (aj.mk 0 (fun _ => bq) 1 (fun _ => M)) = true) (h0 : iK f M ≠ 0) : aA Tryz.prog 3 [jJ f, .agg [.g (.int .i64 M.oc), .g (.int .i64 M.nu), .g (.int .i64 M.kd), .g (.int .i64 M.fr), .g (.int .i64 M.un), .g (.int .i64 M.ca), .lst 3 M.n (dK M.p)]] (.t (.one (.g (.bool (true))))) := by
  have hn0 : (iK f M != 0) = true := bne_iff_ne.2 h0
  refine ak Tryz.func3 rfl (by rw [Tryz.ntmps3]; simp) ?_
  simp only [Tryz.ntmps3, zM, PT.tv, au, Nat.zero_add, Nat.reduceAdd]
  repeat' (first
 | ((with_reducible show aQ _ _ (some 17) _ _ _ _ _ _ _); (refine aF (k := 10) iI (jS) ?_ ?_))
 | ((with_reducible show aQ _ _ (some 19) _ _ _ _ _ _ _); (refine aF (k := 11) dV (jH f hf) ?_ ?_))
 | ((with_reducible show bG _ _ _ (some 25) _ _ _ _ _ _); (refine aO (k := 11) dV (fun hg => kW M ho _ (fun i u hi hu => by obtain rfl : i = 0 := (by omega); rcases (by omega : u = 0 \/ u = 1 \/ u = 2 \/ u = 3 \/ u = 4 \/ u = 5 \/ u = 6) with rfl | rfl | rfl | rfl | rfl | rfl | rfl <;> exact IV.bf _)) ?_ ?_))
 | ((with_reducible show aQ _ _ (some 32) _ _ _ _ _ _ _); (refine aF (k := 12) fD (jE f hf M ho) ?_ ?_))
 | ((with_reducible show bG _ _ false _ _ _ _ _ _ _); (with_reducible refine iL (fun h => by cases h) (fun _ => ?_)))
 | ((with_reducible show mg _ _ false _ _ _ _); (with_reducible refine iV (fun h => by cases h) (fun _ => ?_)))
 | ((with_reducible show AW _ _ _ _); first
 | (with_reducible first | refine aS (fun K hK => ?_) | refine aI ?_ | refine aX ?_ | refine aT ?_ | refine aC ?_ | refine aB ?_)
 | (first
 | (with_reducible first | refine aP 0 [0,1] ?_ | refine aP 1 [2,3] ?_ | refine aP 2 [2,3,5] ?_ | refine aP 3 [5] ?_ | refine aP 4 [2,3,5] ?_ | refine aP 5 [2,5,6,7] ?_ | refine aP 6 [5,7] ?_ | refine aP 8 [2,5,6,8] ?_ | refine aP 9 [2,5,6,8] ?_ | refine aP 10 [2,5,6,8] ?_ | refine aP 11 [2,5,6,8,9] ?_)
 | ((with_reducible refine aR (c := Code.region 12 _ true) [2,5,6,8,9,10,11] ?_); (with_reducible refine aD ?_ ?_ ?_ ?_); (focus kernel_rfl); (focus kernel_rfl); (focus kernel_rfl))
 | (with_reducible first | refine aP 13 [2,5,6,8,9,10] ?_ | refine aP 14 [2,5,6,8,9,10,12] ?_ | refine aP 15 [2,5,6,8,9,10,12] ?_)
 | ((with_reducible refine aR (c := Code.region 16 _ true) [2,5,6,8,9,10,12] ?_); (with_reducible refine aD ?_ ?_ ?_ ?_); (focus kernel_rfl); (focus kernel_rfl); (focus kernel_rfl))
 | (with_reducible first | refine aP 17 [2,5,6,8,9,10] ?_ | refine aP 18 [2,5,6,8,9,10,13] ?_ | refine aP 19 [2,5,6,8,9,10,13] ?_ | refine aP 20 [2,5,6,8,9,10,13] ?_ | refine aP 21 [2,5,6,8,9,10,13,14] ?_ | refine aP 22 [2,5,6,8,9,10,13,14] ?_)
 | ((with_reducible refine aR (c := Code.region 23 _ true) [2,5,6,8,9,10,13,14] ?_); (with_reducible refine aD ?_ ?_ ?_ ?_); (focus kernel_rfl); (focus kernel_rfl); (focus kernel_rfl))
 | (with_reducible first | refine aP 24 [2,5,6,8,9,10,13,14] ?_ | refine aP 25 [2,5,6,8,9,10,13,14,16] ?_ | refine aP 26 [2,5,6,8,9,10,13,16] ?_ | refine aP 27 [5] ?_)))
 | ((first | (with_reducible refine And.intro ?_ ?_) | (with_reducible refine Need.mk ?_)); focus (first | exact True.intro | (with_reducible assumption) | omega | (refine ⟨?_, ?_⟩ <;> omega) | (intro _; first | exact True.intro | (with_reducible assumption) | omega) | (intros; (repeat' (first | exact True.intro | omega | (with_reducible assumption) | (with_reducible refine And.intro ?_ ?_))); done) | (simp (disch := omega) only [Bool.and_eq_true, Bool.or_eq_true, decide_eq_true_eq, bne_iff_ne, ne_eq] at *; first | done | omega | (intros; omega)) | (simp; done) | (simp; omega) | (simp +contextual; done) | (intro h; rw [h]; rfl) | (intro hq; have hq2 := hq; simp only [Bool.and_eq_true, Bool.or_eq_true, Bool.not_eq_true', Bool.not_not, Bool.not_eq_false', decide_eq_true_eq, decide_eq_false_iff_not] at hq2; (repeat' (first | exact hq | (with_reducible refine And.intro ?_ ?_) | omega | (simp_all; done))); done) | (intros; simp_all; done)))
 | (with_reducible refine aJ ?_)
 | (with_reducible refine zR ?_)
 | (with_reducible refine wB rfl rfl rfl ?_)
 | (with_reducible refine zO rfl rfl rfl ?_)
 | ((with_reducible show bL _ _ _ _ _ _); first
 | ((with_reducible refine aM ?_ ?_) <;> (intro hc; (try simp only [zB, zC, reduceCtorEq] at hc); (try (exfalso; first | contradiction | omega)))))
 | ((with_reducible refine And.intro ?_ ?_); focus ((with_reducible show gW _ _ _ = true); kernel_rfl))
 | ((fail_if_success (with_reducible show AW _ _ _ _)); simp (maxSteps := 2000000) only [go_sem, reduceIte, reduceCtorEq, xA, xL, xD, xE, xM, xS, xB, Tryz.f3, bR, bP, bV, bU, bX, bY, bQ, bS, bW, bT, bC, bB, bF, bn, Bool.and_self, h1, h2, hn0])
 | ((fail_if_success (with_reducible show AW _ _ _ _)); simp (disch := omega) only [aV, ig, iq])
 | ((with_reducible refine hK _ ?_); clear hK K))
theorem anG (f : aj) (hf : f.Ok) (M : ah) (ho : M.Ok) (h1 : iM f = true) (h2 : iM (aj.mk 0 (fun _ => bq) 1 (fun _ => M)) = true) (h0 : iK f M = 0) : aA Tryz.prog 3 [jJ f, .agg [.g (.int .i64 M.oc), .g (.int .i64 M.nu), .g (.int .i64 M.kd), .g (.int .i64 M.fr), .g (.int .i64 M.un), .g (.int .i64 M.ca), .lst 3 M.n (dK M.p)]] (.t (.one (.g (.bool (true))))) := by
  have hn := hf.n
  have hk := hf.k
  have hGo := mh hf ho
  have hgn := (Ez h0).2.1
  have hgk := (Ez h0).2.2
  have hgv := (Bu h0).1
  have hk20 := (iB hgv).1
  have hn200 := (mM (iB hgv).2.2).1
  have hq8 : (((dZ f M).k : Int) != (f.k : Int)) = false := bne_eq_false_iff_eq.2 (by rw [hgk])
  have hw : True := trivial
  have hd : True := trivial
  have hx : True := trivial
  have hch : True := trivial
  have has : True := trivial
  have hdk : True := trivial
  have mk1 : True := trivial
  have hwl : True := trivial
  refine ak Tryz.func3 rfl (by rw [Tryz.ntmps3]; simp) ?_
  simp only [Tryz.ntmps3, zM, PT.tv, au, Nat.zero_add, Nat.reduceAdd]
  repeat' (first
 | ((with_reducible show aQ _ _ (some 17) _ _ _ _ _ _ _); (refine aF (k := 10) iI (jS) ?_ ?_))
 | ((with_reducible show aQ _ _ (some 19) _ _ _ _ _ _ _); (refine aF (k := 11) dV (jH f hf) ?_ ?_))
 | ((with_reducible show bG _ _ _ (some 25) _ _ _ _ _ _); (refine aO (k := 11) dV (fun hg => kW M ho _ (fun i u hi hu => by obtain rfl : i = 0 := (by omega); rcases (by omega : u = 0 \/ u = 1 \/ u = 2 \/ u = 3 \/ u = 4 \/ u = 5 \/ u = 6) with rfl | rfl | rfl | rfl | rfl | rfl | rfl <;> exact IV.bf _)) ?_ ?_))
 | ((with_reducible show aQ _ _ (some 32) _ _ _ _ _ _ _); (refine aF (k := 12) fD (jE f hf M ho) ?_ ?_))
 | ((with_reducible show aQ _ _ (some 67) _ _ _ _ _ _ _); (refine aF (k := 13) zi (aaw (dZ f M) hGo ((dZ f M).S i).ch) ?_ ?_))
 | ((with_reducible show iY _ _ _ _ _ (some 110) _ _ _ _ _ _ _); (refine gF (k := 14) qP (fun hg => CP ((dZ f M).S i).q ((dZ f M).S i).dn ((f.S i).dn k) hsi.q) ?_ ?_))
 | ((with_reducible show aQ _ _ (some 127) _ _ _ _ _ _ _); (refine aF (k := 15) Fp (agn ((dZ f M).N j) ((dZ f M).S i).ch (hGo.nn j (by omega))) ?_ ?_))
 | ((with_reducible show bG _ _ _ (some 134) _ _ _ _ _ _); (refine aO (k := 14) qP (fun hg => CP (wL (dZ f M) ((dZ f M).S i).ch).length (zL (wL (dZ f M) ((dZ f M).S i).ch)) ((dZ f M).N j).nu (K9 (dZ f M) hGo ((dZ f M).S i).ch)) ?_ ?_))
 | ((with_reducible show iY _ _ _ _ _ (some 142) _ _ _ _ _ _ _); (refine gF (k := 14) qP (fun hg => CP (wL (dZ f M) ((dZ f M).S i).ch).length (zL (wL (dZ f M) ((dZ f M).S i).ch)) ((dZ f M).N j).nu (K9 (dZ f M) hGo ((dZ f M).S i).ch)) ?_ ?_))
 | ((with_reducible show iY _ _ _ _ _ (some 147) _ _ _ _ _ _ _); (refine gF (k := 14) qP (fun hg => CP ((dZ f M).S i).q ((dZ f M).S i).dn ((dZ f M).N j).nu hsi.q) ?_ ?_))
 | ((with_reducible show aQ _ _ (some 153) _ _ _ _ _ _ _); (refine aF (k := 16) zu (LA ((dZ f M).S i) ((dZ f M).N j) hsi (hGo.nn j (by omega))) ?_ ?_))
 | ((with_reducible show aQ _ _ (some 159) _ _ _ _ _ _ _); (refine aF (k := 14) qP (CP (wL (dZ f M) ((dZ f M).S i).ch).length (zL (wL (dZ f M) ((dZ f M).S i).ch)) ((dZ f M).N j).nu (K9 (dZ f M) hGo ((dZ f M).S i).ch)) ?_ ?_))
 | ((with_reducible show bG _ _ false _ _ _ _ _ _ _); (with_reducible refine iL (fun h => by cases h) (fun _ => ?_)))
 | ((with_reducible show mg _ _ false _ _ _ _); (with_reducible refine iV (fun h => by cases h) (fun _ => ?_)))
 | ((with_reducible show AW _ _ _ _); first
 | (with_reducible first | refine aS (fun K hK => ?_) | refine aI ?_ | refine aX ?_ | refine aT ?_ | refine aC ?_ | refine aB ?_)
 | (first
 | (with_reducible first | refine aP 0 [0,1] ?_ | refine aP 1 [2,3] ?_ | refine aP 2 [2,3,5] ?_ | refine aP 3 [5] ?_ | refine aP 4 [2,3,5] ?_ | refine aP 5 [2,5,6,7] ?_ | refine aP 6 [5,7] ?_ | refine aP 7 [2,5,6] ?_ | refine aP 8 [2,5,6,8] ?_ | refine aP 9 [2,5,6,8] ?_ | refine aP 10 [2,5,6,8] ?_ | refine aP 11 [2,5,6,8,9] ?_)
 | ((with_reducible refine aR (c := Code.region 12 _ true) [2,5,6,8,9,10,11] ?_); (with_reducible refine aD ?_ ?_ ?_ ?_); (focus kernel_rfl); (focus kernel_rfl); (focus kernel_rfl))
 | (with_reducible first | refine aP 13 [2,5,6,8,9,10] ?_ | refine aP 14 [2,5,6,8,9,10,12] ?_ | refine aP 15 [2,5,6,8,9,10,12] ?_)
 | ((with_reducible refine aR (c := Code.region 16 _ true) [2,5,6,8,9,10,12] ?_); (with_reducible refine aD ?_ ?_ ?_ ?_); (focus kernel_rfl); (focus kernel_rfl); (focus kernel_rfl))
 | (with_reducible first | refine aP 17 [2,5,6,8,9,10] ?_ | refine aP 18 [2,5,6,8,9,10,13] ?_ | refine aP 19 [2,5,6,8,9,10,13] ?_ | refine aP 20 [2,5,6,8,9,10,13] ?_ | refine aP 21 [2,5,6,8,9,10,13,14] ?_ | refine aP 22 [2,5,6,8,9,10,13,14] ?_)
 | ((with_reducible refine aR (c := Code.region 23 _ true) [2,5,6,8,9,10,13,14] ?_); (with_reducible refine aD ?_ ?_ ?_ ?_); (focus kernel_rfl); (focus kernel_rfl); (focus kernel_rfl))
 | (with_reducible first | refine aP 24 [2,5,6,8,9,10,13,14] ?_ | refine aP 25 [2,5,6,8,9,10,13,14,16] ?_ | refine aP 26 [2,5,6,8,9,10,13,16] ?_ | refine aP 27 [5] ?_))
 | ((with_reducible show AW _ (Code.loop _) _ _); first
 | ((with_reducible refine aL (c := (Code.seq (Code.seq (Code.region 8 _ _) _) _)) (ι := Nat) [2,6] (fun i => [(5, .t (.one (.iv (.g (.bool true))))), (8, iA .i64 (i : Int))]) (fun i => []) (fun i => i <= (dZ f M).k) (fun i => (dZ f M).k - i) 0 ?lg8 ?l18 ?l28 ?li8 ?lr8); (case' lg8 => rintro i _); (case' li8 => try (first | trivial | omega | (simp; done) | (simp; omega))); (case' lr8 => rintro i hi KR hR8; simp only [bI, dI, hset, lk, if_true, if_false, xE, reduceIte, zN, bR, bP, bV, bU, bX, bY, bQ, bS, bW, bT, bC, bB, bF, Bool.and_self, h1, h2, h0, hq8, hw, hd, hx, hch, has, hdk, hwl]))
 | ((with_reducible refine aL (c := (Code.seq (Code.seq (Code.region 14 _ _) _) _)) (ι := Nat) [2,6,8,9,10] (fun k => [(5, .t (.one (.iv (.g (.bool true))))), (12, iA .i64 (k : Int))]) (fun k => []) (fun k => k <= (f.S i).q) (fun k => (f.S i).q - k) 0 ?lg14 ?l114 ?l214 ?li14 ?lr14); (case' lg14 => rintro k _); (case' li14 => try (first | trivial | omega | (simp; done) | (simp; omega))); (case' lr14 => rintro k hkk KR hR14; simp only [bI, dI, hset, lk, if_true, if_false, xE, reduceIte, zN, bR, bP, bV, bU, bX, bY, bQ, bS, bW, bT, bC, bB, bF, Bool.and_self, h1, h2, h0, hq8, hw, hd, hx, hch, has, hdk, hwl]))
 | ((with_reducible refine aL (c := (Code.seq (Code.seq (Code.region 18 _ _) _) _)) (ι := Nat) [2,6,8,9,10] (fun j => [(5, .t (.one (.iv (.g (.bool true))))), (13, iA .i64 (j : Int))]) (fun j => []) (fun j => j <= (dZ f M).n) (fun j => (dZ f M).n - j) 0 ?lg18 ?l118 ?l218 ?li18 ?lr18); (case' lg18 => rintro j _); (case' li18 => try (first | trivial | omega | (simp; done) | (simp; omega))); (case' lr18 => rintro j hj KR hR18; simp only [bI, dI, hset, lk, if_true, if_false, xE, reduceIte, zN, bR, bP, bV, bU, bX, bY, bQ, bS, bW, bT, bC, bB, bF, Bool.and_self, h1, h2, h0, hq8, hw, hd, hx, hch, has, hdk, hwl]))))
 | ((first | (with_reducible refine And.intro ?_ ?_) | (with_reducible refine Need.mk ?_)); focus (first | exact True.intro | (with_reducible assumption) | omega | (refine ⟨?_, ?_⟩ <;> omega) | (intro _; first | exact True.intro | (with_reducible assumption) | omega) | (intros; (repeat' (first | exact True.intro | omega | (with_reducible assumption) | (with_reducible refine And.intro ?_ ?_))); done) | (simp (disch := omega) only [Bool.and_eq_true, Bool.or_eq_true, decide_eq_true_eq, bne_iff_ne, ne_eq] at *; first | done | omega | (intros; omega)) | (simp; done) | (simp; omega) | (simp +contextual; done) | (intro h; rw [h]; rfl) | (intro hq; have hq2 := hq; simp only [Bool.and_eq_true, Bool.or_eq_true, Bool.not_eq_true', Bool.not_not, Bool.not_eq_false', decide_eq_true_eq, decide_eq_false_iff_not] at hq2; (repeat' (first | exact hq | (with_reducible refine And.intro ?_ ?_) | omega | (simp_all; done))); done) | (intros; simp_all; done)))
 | (with_reducible refine aJ ?_)
 | (with_reducible refine zR ?_)
 | (with_reducible refine wB rfl rfl rfl ?_)
 | (with_reducible refine zO rfl rfl rfl ?_)
 | ((with_reducible show bL _ _ _ _ _ _); first
 | ((with_reducible refine aM ?_ ?_) <;> (intro hc; (try simp only [zB, zC, reduceCtorEq] at hc); ((try (clear mk1; have hil : i < (dZ f M).k := (by omega); have hsi := hGo.s i hil; have hq2 := Ar ((iB (Iz h0).v).2.1 i (by omega)).1; have hch : (((dZ f M).S i).ch == (f.S i).ch) = true := beq_iff_eq.2 (ake h0 (by omega)); have has := (afJ hgv hil).2)); (try (have hkl : k < (f.S i).q := (by omega); have hdk := am3 h0 hkl)); (try (have hjl : j < (dZ f M).n := (by omega); have hwl := ajV hgv (i := i) hil hjl)); (try (have hcn : kD ((dZ f M).N j) ((dZ f M).S i).ch = true := (by assumption); rcases YH h0 (by omega) (by omega) hcn with ⟨hw, hd⟩ | ⟨hw, hd, hx | hx | hx⟩)); (try (have hcn : kD ((dZ f M).N j) ((dZ f M).S i).ch = false := (by assumption); have hw : nJ ((dZ f M).S i) ((dZ f M).N j) = false := (by unfold nJ; rw [hcn]; rfl)))); (try (exfalso; first | contradiction | omega)))))
 | ((with_reducible refine And.intro ?_ ?_); focus ((with_reducible show gW _ _ _ = true); kernel_rfl))
 | ((with_reducible refine hR8 _ (i + 1) ?_); (try clear hR8 KR))
 | ((with_reducible refine hR14 _ (k + 1) ?_); (try clear hR14 KR))
 | ((with_reducible refine hR18 _ (j + 1) ?_); (try clear hR18 KR))
 | ((with_reducible refine Told.mk ?_); simp only [go_sem, reduceIte, reduceCtorEq, xA, xL, xD, xE, xM, xS, xB, bR, bP, bV, bU, bX, bY, bQ, bS, bW, bT, bC, bB, bF, bn, Bool.and_self, h1, h2, h0, hq8, hw, hd, hx, hch, has, hdk, hwl] <;> (first | exact True.intro | (((try simp (disch := omega) only [aV, Int.natCast_add, Int.cast_ofNat_Int, and_true, true_and, and_self]); (repeat' (first | exact True.intro | omega | rfl | (with_reducible assumption) | (with_reducible refine And.intro ?_ ?_) | (exact all_succ (by assumption) (by assumption)) | ((exact rfl)))); done)) | (refine Stuck.out ?_)))
 | ((fail_if_success (with_reducible show AW _ _ _ _)); simp (maxSteps := 2000000) only [go_sem, reduceIte, reduceCtorEq, xA, xL, xD, xE, xM, xS, xB, Tryz.f3, bR, bP, bV, bU, bX, bY, bQ, bS, bW, bT, bC, bB, bF, bn, Bool.and_self, h1, h2, h0, hq8, hw, hd, hx, hch, has, hdk, hwl])
 | ((fail_if_success (with_reducible show AW _ _ _ _)); simp (disch := omega) only [aV, ig, iq])
 | ((with_reducible refine hK _ ?_); clear hK K)
 | (with_reducible apply_assumption -exfalso only [*]))
theorem ait (f : aj) (hf : f.Ok) (M : ah) (ho : M.Ok) : aA Tryz.prog 3 [jJ f, .agg [.g (.int .i64 M.oc), .g (.int .i64 M.nu), .g (.int .i64 M.kd), .g (.int .i64 M.fr), .g (.int .i64 M.un), .g (.int .i64 M.ca), .lst 3 M.n (dK M.p)]] (.t (.one (.g (.bool (true))))) := by
  cases h1 : iM f with
  | false => exact an4 f hf M ho h1
  | true => cases h2 : iM (aj.mk 0 (fun _ => bq) 1 (fun _ => M)) with
    | false => exact aob f hf M ho h1 h2
    | true =>
      by_cases h0 : iK f M = 0
      · exact anG f hf M ho h1 h2 h0
      · exact aoq f hf M ho h1 h2 h0
end Go.Proofs.YtcfechepbamhkaaGreat
