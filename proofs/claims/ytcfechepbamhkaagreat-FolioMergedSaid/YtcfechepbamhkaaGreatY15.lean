/- Part 15 of 16: contracts of functions and plain laws for the root text. No condition. -/
import Derived.Test.YtcfechepbamhkaaGreatY01
import Derived.Test.YtcfechepbamhkaaGreatY02
import Derived.Test.YtcfechepbamhkaaGreatY03
import Derived.Test.YtcfechepbamhkaaGreatY04
import Derived.Test.YtcfechepbamhkaaGreatY05
import Derived.Test.YtcfechepbamhkaaGreatY06
import Derived.Test.YtcfechepbamhkaaGreatY07
import Derived.Test.YtcfechepbamhkaaGreatY08
import Derived.Test.YtcfechepbamhkaaGreatY09
import Derived.Test.YtcfechepbamhkaaGreatY10
import Derived.Test.YtcfechepbamhkaaGreatY11
import Derived.Test.YtcfechepbamhkaaGreatY12
import Derived.Test.YtcfechepbamhkaaGreatY13
import Derived.Test.YtcfechepbamhkaaGreatY14
import Derived.Shelf.SlGeneric
import Derived.Ground.SlgfProg
import Derived.Shelf.SlicesE.DeleteFunc
import Derived.Test.YtcfechepbamhkaaGreatProg
set_option linter.unusedVariables false
set_option linter.unusedSimpArgs false
set_option maxRecDepth 100000
set_option maxHeartbeats 4000000
namespace Go.Proofs.YtcfechepbamhkaaGreat
open Go.RowKit Go.Sea
open Nat renaming reduceAdd -> xA, reduceLT -> xL, reduceLeDiff -> xD, reduceEqDiff -> xE, reduceMul -> xM, reduceSub -> xS, reduceBEq -> xB
theorem qH : aK Tryz.prog 19 = true := by kernel_rfl
theorem Mq : aK Tryz.prog 41 = true := by kernel_rfl
theorem aay : aK Tryz.prog 42 = true := by kernel_rfl
theorem MZ : aK Tryz.prog 43 = true := by kernel_rfl
theorem ZG : aK Tryz.prog 85 = true := by kernel_rfl
theorem aia : lG Tryz.prog 31 = some (false, 1) := by kernel_rfl
theorem ak5 : fJ Tryz.prog 31 = some [.iv (.g (.int .i64 0))] := by kernel_rfl
attribute [go_sem] qH Mq aay MZ aia ak5
def RI (f : aj) (M : ah) (v : Nat) : Nat := max v (iN f M)
theorem CQ (f : aj) (M : ah) : RI f M f.n = f.n := by have := mZ f M; unfold RI; omega
theorem Aj (f : aj) (M : ah) : RI f M 0 = iN f M := by unfold RI; omega
theorem ahD {f : aj} {M : ah} {v : Nat} (h : iN f M <= v - 1) : RI f M (v - 1) = v - 1 := by unfold RI; omega
theorem ahi {f : aj} {M : ah} {v : Nat} (h : v - 1 < iN f M) (hv : 1 <= v) : RI f M v = iN f M /\ RI f M (v - 1) = iN f M := by unfold RI; omega
theorem afd {f : aj} {M : ah} {v : Nat} (hv : dR f = true) (h1 : 0 <= (v : Int) - 1) (hn : v <= f.n) (h : M.nu < (f.N (v - 1)).nu) : (v : Int) - 1 = (RI f M (v - 1) : Int) := by
  have := mt (DR (M := M) hv (i := v - 1) (by omega)).2 (by omega)
  rw [ahD (by omega)]; omega
theorem afm {f : aj} {M : ah} {v : Nat} (hv : dR f = true) (h1 : 0 <= (v : Int) - 1) (hn : v <= f.n) (h : (f.N (v - 1)).nu <= M.nu) (h2 : (f.N (v - 1)).nu ≠ M.nu) : (RI f M v : Int) = (RI f M (v - 1) : Int) := by
  have := (DR (M := M) hv (i := v - 1) (by omega)).1 (by omega)
  have := ahi (f := f) (M := M) (v := v) (by omega) (by omega)
  rw [this.1, this.2]
theorem abB {N : Nat -> ah} {n v : Nat} {x : Int} (h : ∀ j, v <= j -> j < n -> (N j).nu ≠ x) (h1 : (N (v - 1)).nu ≠ x) : ∀ j, v - 1 <= j -> j < n -> (N j).nu ≠ x := fun j h2 h3 => by
  by_cases hj : j = v - 1
  · rw [hj]; exact h1
  · exact h j (by omega) h3
theorem DW : ∀ (l : List ah) (k : Nat), (gQ l).take (k * 7) = gQ (l.take k)
  | [], k => by simp [gQ]
  | s :: l, 0 => by simp [gQ]
  | s :: l, k + 1 => by
    show (c7 s ++ gQ l).take ((k + 1) * 7) = c7 s ++ gQ (l.take k)
    rw [List.take_append, List.take_of_length_le (by show 7 <= _; omega), <- DW l k]
    congr 1; show (gQ l).take ((k + 1) * 7 - 7) = _; rw [Nat.add_mul]; rfl
theorem Eb : ∀ (l : List ah) (k : Nat), (gQ l).drop (k * 7) = gQ (l.drop k)
  | [], k => by simp [gQ]
  | s :: l, 0 => by simp [gQ]
  | s :: l, k + 1 => by
    show (c7 s ++ gQ l).drop ((k + 1) * 7) = gQ (l.drop k)
    rw [List.drop_append, List.drop_eq_nil_of_le (by show 7 <= _; omega), <- Eb l k, List.nil_append]
    show (gQ l).drop ((k + 1) * 7 - 7) = _; rw [Nat.add_mul]; rfl
theorem agj (f : aj) (M : ah) : (Go.Sea.dZ (fB f.N) 7 f.n 0).take (iN f M * 7) ++ [.iv (.g (.int .i64 M.oc)), .iv (.g (.int .i64 M.nu)), .iv (.g (.int .i64 M.kd)), .iv (.g (.int .i64 M.fr)), .iv (.g (.int .i64 M.un)), .iv (.g (.int .i64 M.ca)), .iv (.lst 3 M.n (eO M.p))] ++ (Go.Sea.dZ (fB f.N) 7 f.n 0).drop (iN f M * 7) = gQ (JV f M) := by
  have hJ := mZ f M
  rw [acQ, DW, Eb, aiB]
  have e1 : ((List.range f.n).map f.N).take (iN f M) = nL f (iN f M) := by
    unfold nL
    rw [<- List.map_take, List.take_range, Nat.min_eq_left hJ]
  have e2 : ((List.range f.n).map f.N).drop (iN f M) = (List.range (f.n - iN f M)).map (fun i => f.N (iN f M + i)) := by
    refine List.ext_getElem (by simp) fun i h1 h2 => by simp
  rw [e1, e2]
  unfold gQ; simp only [List.flatMap_append, List.flatMap_cons, List.flatMap_nil, List.append_nil, List.append_assoc]; rfl
theorem rec_1 (f : aj) (hf : f.Ok) (M : ah) (ho : M.Ok) (h : dR f = false \/ gM M = false) : aA Tryz.prog 12 [iw f, .agg [.g (.int .i64 M.oc), .g (.int .i64 M.nu), .g (.int .i64 M.kd), .g (.int .i64 M.fr), .g (.int .i64 M.un), .g (.int .i64 M.ca), .lst 3 M.n (eO M.p)]] (.tup [iw (vX f M), .one (.g (.int .i64 (jZ f M)))]) := by
  refine ak Tryz.func12 rfl (by rw [Tryz.ntmps12]; simp) ?_
  simp only [Tryz.ntmps12, zM, PT.tv, au, Nat.zero_add, Nat.reduceAdd]
  repeat' (first
 | ((with_reducible show AW _ _ _ _); first
 | (with_reducible first | refine aS (fun K hK => ?_) | refine aI ?_ | refine aT ?_ | refine aC ?_)
 | ((with_reducible first | refine aP 0 [0,1,39,40] ?_ | refine aP 1 [2,3,4,5,39,40] ?_ | refine aP 2 [4,5] ?_)))
 | ((first | (with_reducible refine And.intro ?_ ?_) | (with_reducible refine Need.mk ?_)); focus (first | exact True.intro | (intro _; (with_reducible assumption)) | (simp; done)))
 | (with_reducible refine aJ ?_)
 | ((with_reducible show bL _ _ _ _ _ _); first
 | ((with_reducible refine aM ?_ ?_) <;> (intro hc; (try simp only [zB, zC, reduceCtorEq] at hc); (try (exfalso; contradiction)))))
 | ((with_reducible show aW _ _ _ _ _ _ _ _ _ _); (refine aF (k := 26) j3 (uz f hf) ?_ ?_))
 | ((with_reducible show bM _ _ _ _ _ _ _ _ _ _); (refine aO (k := 18) jm (fun hg => pO M ho) ?_ ?_))
 | ((fail_if_success (with_reducible show AW _ _ _ _)); simp (maxSteps := 2000000) only [go_sem, reduceIte, reduceCtorEq, xA, xL, xD, xE, xM, xS, xB, Tryz.f12, bC, h])
 | ((with_reducible refine hK _ ?_); clear hK K))
  all_goals first | (have e := ak1 h; rw [vO (by omega), e]; unfold oo; (repeat' (first | exact rfl | (with_reducible refine And.intro ?_ ?_))); done) | (exfalso; rcases h with h | h <;> simp_all; done) | (have e := MU ⟨hv, hw⟩ h2 (fun q => hai _ (by omega) (by omega) q.2); rw [if_neg (by omega)] at e; rw [Ee e, e]; (repeat' (exact rfl)); done) | skip
theorem rec_2 (f : aj) (hf : f.Ok) (M : ah) (ho : M.Ok) (hv : dR f = true) (hw : gM M = true) (h2 : 0 < f.n /\ (f.N 0).oc ≠ M.oc) : aA Tryz.prog 12 [iw f, .agg [.g (.int .i64 M.oc), .g (.int .i64 M.nu), .g (.int .i64 M.kd), .g (.int .i64 M.fr), .g (.int .i64 M.un), .g (.int .i64 M.ca), .lst 3 M.n (eO M.p)]] (.tup [iw (vX f M), .one (.g (.int .i64 (jZ f M)))]) := by
  refine ak Tryz.func12 rfl (by rw [Tryz.ntmps12]; simp) ?_
  simp only [Tryz.ntmps12, zM, PT.tv, au, Nat.zero_add, Nat.reduceAdd]
  repeat' (first
 | ((with_reducible show AW _ _ _ _); first
 | (with_reducible first | refine aS (fun K hK => ?_) | refine aI ?_ | refine aT ?_ | refine aC ?_)
 | (first
 | (with_reducible first | refine aP 0 [0,1,39,40] ?_ | refine aP 1 [2,3,4,5,39,40] ?_)
 | ((with_reducible refine aR (c := Code.region 3 _ true) [2,3,4,5,39,40] ?_); (with_reducible refine aD ?_ ?_ ?_ ?_); (focus kernel_rfl); (focus kernel_rfl); (focus kernel_rfl))
 | (with_reducible refine aP 4 [4,5] ?_)))
 | ((first | (with_reducible refine And.intro ?_ ?_) | (with_reducible refine Need.mk ?_)); focus (first | exact True.intro | (intro _; exact True.intro) | (intros; (repeat' (first | omega | (with_reducible refine And.intro ?_ ?_))); done)))
 | (with_reducible refine aJ ?_)
 | ((with_reducible show bL _ _ _ _ _ _); first
 | ((with_reducible refine aM ?_ ?_) <;> (intro hc; (try simp only [zB, zC, reduceCtorEq] at hc); (try (exfalso; omega)))))
 | ((with_reducible refine And.intro ?_ ?_); focus ((with_reducible show gV _ _ _ = true); kernel_rfl))
 | ((with_reducible show aW _ _ _ _ _ _ _ _ _ _); (refine aF (k := 26) j3 (uz f hf) ?_ ?_))
 | ((with_reducible show bM _ _ _ _ _ _ _ _ _ _); (refine aO (k := 18) jm (fun hg => pO M ho) ?_ ?_))
 | ((fail_if_success (with_reducible show AW _ _ _ _)); simp (maxSteps := 2000000) only [go_sem, reduceIte, reduceCtorEq, xA, xL, xD, xE, xM, xS, xB, Tryz.f12, bC, hv, hw])
 | ((with_reducible refine hK _ ?_); clear hK K))
  all_goals first | (have e := ai2 ⟨hv, hw⟩ h2; rw [vO (by omega), e]; unfold oo; (repeat' (first | exact rfl | (with_reducible refine And.intro ?_ ?_))); done) | (exfalso; omega) | (have e := MU ⟨hv, hw⟩ h2 (fun q => hai _ (by omega) (by omega) q.2); rw [if_neg (by omega)] at e; rw [Ee e, e]; (repeat' (exact rfl)); done) | skip
def fu (f : aj) (M : ah) : Option (List CV) := some [.iv (.lst 13 f.k (ji f.S)), .iv (.lst 7 f.n (fB f.N))]
def dK (f : aj) (M : ah) : Option (List CV) := some [.iv (.g (.int .i64 M.oc)), .iv (.g (.int .i64 M.nu)), .iv (.g (.int .i64 M.kd)), .iv (.g (.int .i64 M.fr)), .iv (.g (.int .i64 M.un)), .iv (.g (.int .i64 M.ca)), .iv (.lst 3 M.n (eO M.p))]
def eU (f : aj) (M : ah) : Option (List CV) := some [.iv (.g (.slice none 0 0)), .iv (.g (.slice none 0 0))]
def eY (f : aj) (M : ah) : Option (List CV) := some [.iv (.g (.int .i64 0))]
def eZ (f : aj) (M : ah) : Option (List CV) := some [.iv (.g (.int .i64 ((iN f M) : Int)))]
def eP (f : aj) (M : ah) : Option (List CV) := some [.iv (.lst 7 f.n (fB f.N))]
def rT (f : aj) (M : ah) : AV := .t (.one (.iv (.lst 7 f.n (fB f.N))))
def rE (f : aj) (M : ah) : AV := .t (.one (.slc 8 0 f.n 7))
def rH (f : aj) (M : ah) : Option (List CV) := some (Go.Sea.dZ (fB f.N) 7 f.n 0)
def jT (f : aj) (M : ah) : AV := .t (.one (.iv (.g (.int .i64 ((iN f M) : Int)))))
def kT (f : aj) (M : ah) : AV := .t (.agg [.iv (.g (.int .i64 M.oc)), .iv (.g (.int .i64 M.nu)), .iv (.g (.int .i64 M.kd)), .iv (.g (.int .i64 M.fr)), .iv (.g (.int .i64 M.un)), .iv (.g (.int .i64 M.ca)), .iv (.lst 3 M.n (eO M.p))])
def kW (f : aj) (M : ah) : AV := .t (.one (.slc 11 0 1 7))
def gy (m : Nat) : List Nat := if m = 0 then [2,3,4,5,6] else if m = 1 then [2,3,4,5,6,72] else if m = 3 then [2,3,4,5,6,73] else if m = 7 then [2,3,4,5,6,74] else if m = 8 then [2,3,4,5,6,75] else if m = 9 then [2,3,4,5,6,72,75] else if m = 11 then [2,3,4,5,6,73,75] else if m = 15 then [2,3,4,5,6,74,75] else if m = 16 then [2,3,4,5,6,76] else if m = 17 then [2,3,4,5,6,72,76] else if m = 19 then [2,3,4,5,6,73,76] else if m = 23 then [2,3,4,5,6,74,76] else if m = 24 then [2,3,4,5,6,75,76] else if m = 25 then [2,3,4,5,6,72,75,76] else if m = 27 then [2,3,4,5,6,73,75,76] else if m = 31 then [2,3,4,5,6,74,75,76] else if m = 48 then [2,3,4,5,6,77] else if m = 49 then [2,3,4,5,6,72,77] else if m = 51 then [2,3,4,5,6,73,77] else if m = 55 then [2,3,4,5,6,74,77] else if m = 56 then [2,3,4,5,6,75,77] else if m = 57 then [2,3,4,5,6,72,75,77] else if m = 59 then [2,3,4,5,6,73,75,77] else if m = 63 then [2,3,4,5,6,74,75,77] else if m = 127 then [2,3,4,5,6,78] else if m = 255 then [2,3,4,5,6,78,79] else if m = 511 then [2,4,5] else []
theorem acd : gy 0 = [2,3,4,5,6] := rfl
theorem abK : gy 1 = [2,3,4,5,6,72] := rfl
theorem abu : gy 3 = [2,3,4,5,6,73] := rfl
theorem YZ : gy 7 = [2,3,4,5,6,74] := rfl
theorem acs : gy 8 = [2,3,4,5,6,75] := rfl
theorem ZB : gy 9 = [2,3,4,5,6,72,75] := rfl
theorem Ti : gy 11 = [2,3,4,5,6,73,75] := rfl
theorem VY : gy 15 = [2,3,4,5,6,74,75] := rfl
theorem Wq : gy 16 = [2,3,4,5,6,76] := rfl
theorem XB : gy 17 = [2,3,4,5,6,72,76] := rfl
theorem UF : gy 19 = [2,3,4,5,6,73,76] := rfl
theorem U4 : gy 23 = [2,3,4,5,6,74,76] := rfl
theorem Tc : gy 24 = [2,3,4,5,6,75,76] := rfl
theorem YG : gy 25 = [2,3,4,5,6,72,75,76] := rfl
theorem Wy : gy 27 = [2,3,4,5,6,73,75,76] := rfl
theorem VI : gy 31 = [2,3,4,5,6,74,75,76] := rfl
theorem Xv : gy 48 = [2,3,4,5,6,77] := rfl
theorem WM : gy 49 = [2,3,4,5,6,72,77] := rfl
theorem WU : gy 51 = [2,3,4,5,6,73,77] := rfl
theorem Sw : gy 55 = [2,3,4,5,6,74,77] := rfl
theorem Tf : gy 56 = [2,3,4,5,6,75,77] := rfl
theorem Vs : gy 57 = [2,3,4,5,6,72,75,77] := rfl
theorem U7 : gy 59 = [2,3,4,5,6,73,75,77] := rfl
theorem WI : gy 63 = [2,3,4,5,6,74,75,77] := rfl
theorem Qi : gy 127 = [2,3,4,5,6,78] := rfl
theorem Qz : gy 255 = [2,3,4,5,6,78,79] := rfl
theorem Rk : gy 511 = [2,4,5] := rfl
def zV (f : aj) (M : ah) : AS := ⟨[(2, .t (.one (.ptr 0 0))), (3, .t (.one (.ptr 1 0))), (4, .t (.one (.ptr 2 0))), (5, .t (.one (.ptr 3 0))), (6, .t (.one (.ptr 4 0)))], [(fu f M), (dK f M), (eU f M), (eY f M), (eZ f M), (eP f M)], 82, [], LP.top⟩
def El (f : aj) (M : ah) : AS := ⟨[(2, .t (.one (.ptr 0 0))), (3, .t (.one (.ptr 1 0))), (4, .t (.one (.ptr 2 0))), (5, .t (.one (.ptr 3 0))), (6, .t (.one (.ptr 4 0))), (72, .t (.one (.ptr 0 1)))], [(fu f M), (dK f M), (eU f M), (eY f M), (eZ f M), (eP f M)], 82, [], LP.top⟩
def E9 (f : aj) (M : ah) : AS := ⟨[(2, .t (.one (.ptr 0 0))), (3, .t (.one (.ptr 1 0))), (4, .t (.one (.ptr 2 0))), (5, .t (.one (.ptr 3 0))), (6, .t (.one (.ptr 4 0))), (73, (rT f M))], [(fu f M), (dK f M), (eU f M), (eY f M), (eZ f M), (eP f M)], 82, [], LP.top⟩
def ER (f : aj) (M : ah) : AS := ⟨[(2, .t (.one (.ptr 0 0))), (3, .t (.one (.ptr 1 0))), (4, .t (.one (.ptr 2 0))), (5, .t (.one (.ptr 3 0))), (6, .t (.one (.ptr 4 0))), (74, (rE f M))], [(fu f M), (dK f M), (eU f M), (eY f M), (eZ f M), (eP f M), none, none, (rH f M)], 82, [], LP.top⟩
def Ga (f : aj) (M : ah) : AS := ⟨[(2, .t (.one (.ptr 0 0))), (3, .t (.one (.ptr 1 0))), (4, .t (.one (.ptr 2 0))), (5, .t (.one (.ptr 3 0))), (6, .t (.one (.ptr 4 0))), (75, (jT f M))], [(fu f M), (dK f M), (eU f M), (eY f M), (eZ f M), (eP f M)], 82, [], LP.top⟩
def FW (f : aj) (M : ah) : AS := ⟨[(2, .t (.one (.ptr 0 0))), (3, .t (.one (.ptr 1 0))), (4, .t (.one (.ptr 2 0))), (5, .t (.one (.ptr 3 0))), (6, .t (.one (.ptr 4 0))), (72, .t (.one (.ptr 0 1))), (75, (jT f M))], [(fu f M), (dK f M), (eU f M), (eY f M), (eZ f M), (eP f M)], 82, [], LP.top⟩
def Dc (f : aj) (M : ah) : AS := ⟨[(2, .t (.one (.ptr 0 0))), (3, .t (.one (.ptr 1 0))), (4, .t (.one (.ptr 2 0))), (5, .t (.one (.ptr 3 0))), (6, .t (.one (.ptr 4 0))), (73, (rT f M)), (75, (jT f M))], [(fu f M), (dK f M), (eU f M), (eY f M), (eZ f M), (eP f M)], 82, [], LP.top⟩
def Cn (f : aj) (M : ah) : AS := ⟨[(2, .t (.one (.ptr 0 0))), (3, .t (.one (.ptr 1 0))), (4, .t (.one (.ptr 2 0))), (5, .t (.one (.ptr 3 0))), (6, .t (.one (.ptr 4 0))), (74, (rE f M)), (75, (jT f M))], [(fu f M), (dK f M), (eU f M), (eY f M), (eZ f M), (eP f M), none, none, (rH f M)], 82, [], LP.top⟩
def Br (f : aj) (M : ah) : AS := ⟨[(2, .t (.one (.ptr 0 0))), (3, .t (.one (.ptr 1 0))), (4, .t (.one (.ptr 2 0))), (5, .t (.one (.ptr 3 0))), (6, .t (.one (.ptr 4 0))), (76, (kT f M))], [(fu f M), (dK f M), (eU f M), (eY f M), (eZ f M), (eP f M)], 82, [], LP.top⟩
def BU (f : aj) (M : ah) : AS := ⟨[(2, .t (.one (.ptr 0 0))), (3, .t (.one (.ptr 1 0))), (4, .t (.one (.ptr 2 0))), (5, .t (.one (.ptr 3 0))), (6, .t (.one (.ptr 4 0))), (72, .t (.one (.ptr 0 1))), (76, (kT f M))], [(fu f M), (dK f M), (eU f M), (eY f M), (eZ f M), (eP f M)], 82, [], LP.top⟩
def BF (f : aj) (M : ah) : AS := ⟨[(2, .t (.one (.ptr 0 0))), (3, .t (.one (.ptr 1 0))), (4, .t (.one (.ptr 2 0))), (5, .t (.one (.ptr 3 0))), (6, .t (.one (.ptr 4 0))), (73, (rT f M)), (76, (kT f M))], [(fu f M), (dK f M), (eU f M), (eY f M), (eZ f M), (eP f M)], 82, [], LP.top⟩
def Bl (f : aj) (M : ah) : AS := ⟨[(2, .t (.one (.ptr 0 0))), (3, .t (.one (.ptr 1 0))), (4, .t (.one (.ptr 2 0))), (5, .t (.one (.ptr 3 0))), (6, .t (.one (.ptr 4 0))), (74, (rE f M)), (76, (kT f M))], [(fu f M), (dK f M), (eU f M), (eY f M), (eZ f M), (eP f M), none, none, (rH f M)], 82, [], LP.top⟩
def Bh (f : aj) (M : ah) : AS := ⟨[(2, .t (.one (.ptr 0 0))), (3, .t (.one (.ptr 1 0))), (4, .t (.one (.ptr 2 0))), (5, .t (.one (.ptr 3 0))), (6, .t (.one (.ptr 4 0))), (75, (jT f M)), (76, (kT f M))], [(fu f M), (dK f M), (eU f M), (eY f M), (eZ f M), (eP f M)], 82, [], LP.top⟩
def Co (f : aj) (M : ah) : AS := ⟨[(2, .t (.one (.ptr 0 0))), (3, .t (.one (.ptr 1 0))), (4, .t (.one (.ptr 2 0))), (5, .t (.one (.ptr 3 0))), (6, .t (.one (.ptr 4 0))), (72, .t (.one (.ptr 0 1))), (75, (jT f M)), (76, (kT f M))], [(fu f M), (dK f M), (eU f M), (eY f M), (eZ f M), (eP f M)], 82, [], LP.top⟩
def Cv (f : aj) (M : ah) : AS := ⟨[(2, .t (.one (.ptr 0 0))), (3, .t (.one (.ptr 1 0))), (4, .t (.one (.ptr 2 0))), (5, .t (.one (.ptr 3 0))), (6, .t (.one (.ptr 4 0))), (73, (rT f M)), (75, (jT f M)), (76, (kT f M))], [(fu f M), (dK f M), (eU f M), (eY f M), (eZ f M), (eP f M)], 82, [], LP.top⟩
def Cg (f : aj) (M : ah) : AS := ⟨[(2, .t (.one (.ptr 0 0))), (3, .t (.one (.ptr 1 0))), (4, .t (.one (.ptr 2 0))), (5, .t (.one (.ptr 3 0))), (6, .t (.one (.ptr 4 0))), (74, (rE f M)), (75, (jT f M)), (76, (kT f M))], [(fu f M), (dK f M), (eU f M), (eY f M), (eZ f M), (eP f M), none, none, (rH f M)], 82, [], LP.top⟩
def BZ (f : aj) (M : ah) : AS := ⟨[(2, .t (.one (.ptr 0 0))), (3, .t (.one (.ptr 1 0))), (4, .t (.one (.ptr 2 0))), (5, .t (.one (.ptr 3 0))), (6, .t (.one (.ptr 4 0))), (77, (kW f M))], [(fu f M), (dK f M), (eU f M), (eY f M), (eZ f M), (eP f M), none, none, none, none, none, (dK f M)], 82, [], LP.top⟩
def BO (f : aj) (M : ah) : AS := ⟨[(2, .t (.one (.ptr 0 0))), (3, .t (.one (.ptr 1 0))), (4, .t (.one (.ptr 2 0))), (5, .t (.one (.ptr 3 0))), (6, .t (.one (.ptr 4 0))), (72, .t (.one (.ptr 0 1))), (77, (kW f M))], [(fu f M), (dK f M), (eU f M), (eY f M), (eZ f M), (eP f M), none, none, none, none, none, (dK f M)], 82, [], LP.top⟩
def Ad (f : aj) (M : ah) : AS := ⟨[(2, .t (.one (.ptr 0 0))), (3, .t (.one (.ptr 1 0))), (4, .t (.one (.ptr 2 0))), (5, .t (.one (.ptr 3 0))), (6, .t (.one (.ptr 4 0))), (73, (rT f M)), (77, (kW f M))], [(fu f M), (dK f M), (eU f M), (eY f M), (eZ f M), (eP f M), none, none, none, none, none, (dK f M)], 82, [], LP.top⟩
def AU (f : aj) (M : ah) : AS := ⟨[(2, .t (.one (.ptr 0 0))), (3, .t (.one (.ptr 1 0))), (4, .t (.one (.ptr 2 0))), (5, .t (.one (.ptr 3 0))), (6, .t (.one (.ptr 4 0))), (74, (rE f M)), (77, (kW f M))], [(fu f M), (dK f M), (eU f M), (eY f M), (eZ f M), (eP f M), none, none, (rH f M), none, none, (dK f M)], 82, [], LP.top⟩
def Ak (f : aj) (M : ah) : AS := ⟨[(2, .t (.one (.ptr 0 0))), (3, .t (.one (.ptr 1 0))), (4, .t (.one (.ptr 2 0))), (5, .t (.one (.ptr 3 0))), (6, .t (.one (.ptr 4 0))), (75, (jT f M)), (77, (kW f M))], [(fu f M), (dK f M), (eU f M), (eY f M), (eZ f M), (eP f M), none, none, none, none, none, (dK f M)], 82, [], LP.top⟩
def AL (f : aj) (M : ah) : AS := ⟨[(2, .t (.one (.ptr 0 0))), (3, .t (.one (.ptr 1 0))), (4, .t (.one (.ptr 2 0))), (5, .t (.one (.ptr 3 0))), (6, .t (.one (.ptr 4 0))), (72, .t (.one (.ptr 0 1))), (75, (jT f M)), (77, (kW f M))], [(fu f M), (dK f M), (eU f M), (eY f M), (eZ f M), (eP f M), none, none, none, none, none, (dK f M)], 82, [], LP.top⟩
def Cb (f : aj) (M : ah) : AS := ⟨[(2, .t (.one (.ptr 0 0))), (3, .t (.one (.ptr 1 0))), (4, .t (.one (.ptr 2 0))), (5, .t (.one (.ptr 3 0))), (6, .t (.one (.ptr 4 0))), (73, (rT f M)), (75, (jT f M)), (77, (kW f M))], [(fu f M), (dK f M), (eU f M), (eY f M), (eZ f M), (eP f M), none, none, none, none, none, (dK f M)], 82, [], LP.top⟩
def AY (f : aj) (M : ah) : AS := ⟨[(2, .t (.one (.ptr 0 0))), (3, .t (.one (.ptr 1 0))), (4, .t (.one (.ptr 2 0))), (5, .t (.one (.ptr 3 0))), (6, .t (.one (.ptr 4 0))), (74, (rE f M)), (75, (jT f M)), (77, (kW f M))], [(fu f M), (dK f M), (eU f M), (eY f M), (eZ f M), (eP f M), none, none, (rH f M), none, none, (dK f M)], 82, [], LP.top⟩
def xu (f : aj) (M : ah) : AS := ⟨[(2, .t (.one (.ptr 0 0))), (3, .t (.one (.ptr 1 0))), (4, .t (.one (.ptr 2 0))), (5, .t (.one (.ptr 3 0))), (6, .t (.one (.ptr 4 0))), (78, .t (.one (.slc 8 0 (f.n + 1) 7)))], [(fu f M), (dK f M), (eU f M), (eY f M), (eZ f M), (eP f M), none, none, some (gQ (JV f M)), none, none, (dK f M)], 82, [], LP.top⟩
def vU (f : aj) (M : ah) : AS := ⟨[(2, .t (.one (.ptr 0 0))), (3, .t (.one (.ptr 1 0))), (4, .t (.one (.ptr 2 0))), (5, .t (.one (.ptr 3 0))), (6, .t (.one (.ptr 4 0))), (78, .t (.one (.slc 8 0 (f.n + 1) 7))), (79, .t (.one (.ptr 0 1)))], [(fu f M), (dK f M), (eU f M), (eY f M), (eZ f M), (eP f M), none, none, some (gQ (JV f M)), none, none, (dK f M)], 82, [], LP.top⟩
def vE (f : aj) (M : ah) : AS := ⟨[(2, .t (.one (.ptr 0 0))), (4, .t (.one (.ptr 2 0))), (5, .t (.one (.ptr 3 0)))], [some [.iv (.lst 13 f.k (ji f.S)), .slc 8 0 (f.n + 1) 7], (dK f M), (eU f M), (eY f M), (eZ f M), (eP f M), none, none, some (gQ (JV f M)), none, none, (dK f M)], 82, [], LP.top⟩
def gu (f : aj) (M : ah) (m : Nat) : AS := if m = 0 then zV f M else if m = 1 then El f M else if m = 3 then E9 f M else if m = 7 then ER f M else if m = 8 then Ga f M else if m = 9 then FW f M else if m = 11 then Dc f M else if m = 15 then Cn f M else if m = 16 then Br f M else if m = 17 then BU f M else if m = 19 then BF f M else if m = 23 then Bl f M else if m = 24 then Bh f M else if m = 25 then Co f M else if m = 27 then Cv f M else if m = 31 then Cg f M else if m = 48 then BZ f M else if m = 49 then BO f M else if m = 51 then Ad f M else if m = 55 then AU f M else if m = 56 then Ak f M else if m = 57 then AL f M else if m = 59 then Cb f M else if m = 63 then AY f M else if m = 127 then xu f M else if m = 255 then vU f M else if m = 511 then vE f M else zV f M
theorem Za (f : aj) (M : ah) : gu f M 0 = zV f M := rfl
theorem aaZ (f : aj) (M : ah) : gu f M 1 = El f M := rfl
theorem aaH (f : aj) (M : ah) : gu f M 3 = E9 f M := rfl
theorem aau (f : aj) (M : ah) : gu f M 7 = ER f M := rfl
theorem aaw (f : aj) (M : ah) : gu f M 8 = Ga f M := rfl
theorem aam (f : aj) (M : ah) : gu f M 9 = FW f M := rfl
theorem WE (f : aj) (M : ah) : gu f M 11 = Dc f M := rfl
theorem SE (f : aj) (M : ah) : gu f M 15 = Cn f M := rfl
theorem Wx (f : aj) (M : ah) : gu f M 16 = Br f M := rfl
theorem Sc (f : aj) (M : ah) : gu f M 17 = BU f M := rfl
theorem Tg (f : aj) (M : ah) : gu f M 19 = BF f M := rfl
theorem Yi (f : aj) (M : ah) : gu f M 23 = Bl f M := rfl
theorem WB (f : aj) (M : ah) : gu f M 24 = Bh f M := rfl
theorem WH (f : aj) (M : ah) : gu f M 25 = Co f M := rfl
theorem WY (f : aj) (M : ah) : gu f M 27 = Cv f M := rfl
theorem Xa (f : aj) (M : ah) : gu f M 31 = Cg f M := rfl
theorem SG (f : aj) (M : ah) : gu f M 48 = BZ f M := rfl
theorem Vq (f : aj) (M : ah) : gu f M 49 = BO f M := rfl
theorem SX (f : aj) (M : ah) : gu f M 51 = Ad f M := rfl
theorem Ws (f : aj) (M : ah) : gu f M 55 = AU f M := rfl
theorem VO (f : aj) (M : ah) : gu f M 56 = Ak f M := rfl
theorem TN (f : aj) (M : ah) : gu f M 57 = AL f M := rfl
theorem Vd (f : aj) (M : ah) : gu f M 59 = Cb f M := rfl
theorem Xj (f : aj) (M : ah) : gu f M 63 = AY f M := rfl
theorem QK (f : aj) (M : ah) : gu f M 127 = xu f M := rfl
theorem RH (f : aj) (M : ah) : gu f M 255 = vU f M := rfl
theorem Pj (f : aj) (M : ah) : gu f M 511 = vE f M := rfl
attribute [go_sem] fu dK eU eY eZ eP rT rE rH jT kT kW acd zV Za abK El aaZ abu E9 aaH YZ ER aau acs Ga aaw ZB FW aam Ti Dc WE VY Cn SE Wq Br Wx XB BU Sc UF BF Tg U4 Bl Yi Tc Bh WB YG Co WH Wy Cv WY VI Cg Xa Xv BZ SG WM BO Vq WU Ad SX Sw AU Ws Tf Ak VO Vs AL TN U7 Cb Vd WI AY Xj Qi xu QK Qz vU RH Rk vE Pj
theorem UN (f : aj) (M : ah) (hn : f.n <= 200) {os : List Oper} {ty : Nat} {tys : Array TypeId} {pos : String} {aft : Array Edge} (ho : jP os 6 = some ⟨some 78, .call ⟨.value (.func 42), #[.tmp 74, .tmp 75, .tmp 77], tys⟩, ty, pos, aft, none⟩) : RX Tryz.prog (jP os 6) (gu f M 63) (gu f M 127) := by
  refine Yl (i := 8) (j := 11) (n := f.n) (p := iN f M) (l := Go.Sea.dZ (fB f.N) 7 f.n 0) (x := [.iv (.g (.int .i64 M.oc)), .iv (.g (.int .i64 M.nu)), .iv (.g (.int .i64 M.kd)), .iv (.g (.int .i64 M.fr)), .iv (.g (.int .i64 M.un)), .iv (.g (.int .i64 M.ca)), .iv (.lst 3 M.n (eO M.p))]) (L := [2,3,4,5,6,78]) ho rfl rfl rfl rfl rfl (Go.Sea.fT _ _ _ _) (ED _ _ _ _) rfl (fun y hy => ?_) (by decide) (mZ f M) (by omega) (by show 78 < 82; decide) ?_
  · simp only [List.mem_cons, List.not_mem_nil, or_false] at hy
    rcases hy with rfl | rfl | rfl | rfl | rfl | rfl | rfl <;> trivial
  · rw [agj]; exact ⟨rfl⟩
theorem akg (f : aj) (hf : f.Ok) (M : ah) (ho : M.Ok) (hv : dR f = true) (hw : gM M = true) (h2 : ¬ (0 < f.n /\ (f.N 0).oc ≠ M.oc)) : aA Tryz.prog 12 [iw f, .agg [.g (.int .i64 M.oc), .g (.int .i64 M.nu), .g (.int .i64 M.kd), .g (.int .i64 M.fr), .g (.int .i64 M.un), .g (.int .i64 M.ca), .lst 3 M.n (eO M.p)]] (.tup [iw (vX f M), .one (.g (.int .i64 (jZ f M)))]) := by
  have hn := hf.n
  have hnn := (lW (iE hv).2.2).1
  have hJn := mZ f M
  have ht1 : True := trivial
  have mk1 : True := trivial
  refine ak Tryz.func12 rfl (by rw [Tryz.ntmps12]; simp) ?_
  simp only [Tryz.ntmps12, zM, PT.tv, au, Nat.zero_add, Nat.reduceAdd]
  repeat' (first
 | ((with_reducible show AW _ _ _ _); first
 | (with_reducible first | refine aS (fun K hK => ?_) | refine aI ?_ | refine aX ?_ | refine aT ?_ | refine aC ?_ | refine aB ?_)
 | ((refine eu (k := 85) rfl Tryz.func85 rfl ZG (by rw [Tryz.ntmps85]; simp) ?_ ?_ (fun l hlne A B hA hB => ?_)); (focus (simp (maxSteps := 2000000) only [go_sem, reduceIte, reduceCtorEq, xA, xL, xD, xE, xM, xS, xB, Tryz.f12, Tryz.f85, Tryz.f41, bC, hv, hw, ht1, CQ, Aj, lV, l8, jh, mF, maxLen]; try exact True.intro)); (focus (simp (maxSteps := 2000000) only [go_sem, reduceIte, reduceCtorEq, xA, xL, xD, xE, xM, xS, xB, Tryz.f12, Tryz.f85, Tryz.f41, bC, hv, hw, ht1, CQ, Aj, lV, l8, jh, mF, maxLen]; try exact True.intro)); simp only [Tryz.ntmps85, List.map_cons, List.map_nil, LV.tv, au, yV, Nat.zero_add, Nat.reduceAdd]; clear hlne)
 | (with_reducible refine tZ (by assumption) ?_)
 | (first
 | (with_reducible first | refine aP (ops := #[⟨some 2, _, _, _, _, _⟩, _, _, _]) 0 [0,1,39,40] ?_ | refine aP (ops := #[⟨some 4, _, _, _, _, _⟩, _, _, _]) 0 [0,1] ?_ | refine aP (ops := #[⟨some 1, _, _, _, _, _⟩, _]) 0 [0] ?_ | refine aP (ops := #[⟨some 9, _, _, _, _, _⟩, _, _, _, _, _, _, _]) 1 [2,3,4,5,39,40] ?_ | refine aP (ops := #[⟨some 7, _, _, _, _, _⟩, _]) 1 [0,1,3] ?_ | refine aP (ops := #[⟨some 3, _, _, _, _, _⟩, _]) 1 [1] ?_ | refine aP (ops := #[⟨some 9, _, _, _, _, _⟩, _, _]) 2 [0,1,3] ?_ | refine aP 3 [0,1,3] ?_)
 | ((with_reducible refine aR (c := Code.region 3 _ true) [2,3,4,5,39,40] ?_); (with_reducible refine aD ?_ ?_ ?_ ?_); (focus kernel_rfl); (focus kernel_rfl); (focus kernel_rfl))
 | (with_reducible first | refine aP 5 [2,3,4,5,39,40] ?_ | refine aP 6 [2,3,4,5,6,39,40] ?_ | refine aP 7 [2,3,4,5,6,39,40] ?_ | refine aP 8 [2,3,4,5,6,7,39,40] ?_ | refine aP 9 [2,3,4,5,6,7,8,39,40] ?_ | refine aP 10 [2,3,4,5,6,7,39,40] ?_ | refine aP 11 [2,3,4,5,6,8,39,40] ?_ | refine aP 12 [4,5] ?_ | refine aP 13 [2,3,4,5,6,8,39,40] ?_ | refine aP 14 [4,5] ?_ | refine aP 15 [2,3,4,5,6] ?_ | refine aP 16 [4,5] ?_)
 | ((with_reducible refine aR (c := Code.region 17 _ true) [2,3,4,5,6] ?_); (with_reducible refine Kc 511 [0,1,3,7,8,9,11,15,16,17,19,23,24,25,27,31,48,49,51,55,56,57,59,63,127,255,511] [(0, 0, 1), (0, 3, 8), (0, 4, 16), (1, 1, 3), (1, 3, 9), (1, 4, 17), (8, 0, 9), (8, 4, 24), (16, 0, 17), (16, 3, 24), (16, 5, 48), (3, 2, 7), (3, 3, 11), (3, 4, 19), (9, 1, 11), (9, 4, 25), (17, 1, 19), (17, 3, 25), (17, 5, 49), (24, 0, 25), (24, 5, 56), (48, 0, 49), (48, 3, 56), (7, 3, 15), (7, 4, 23), (11, 2, 15), (11, 4, 27), (19, 2, 23), (19, 3, 27), (19, 5, 51), (25, 1, 27), (25, 5, 57), (49, 1, 51), (49, 3, 57), (56, 0, 57), (15, 4, 31), (23, 3, 31), (23, 5, 55), (27, 2, 31), (27, 5, 59), (51, 2, 55), (51, 3, 59), (57, 1, 59), (31, 5, 63), (55, 3, 63), (59, 2, 63), (63, 6, 127), (127, 7, 255), (255, 8, 511)] (gy 0) (gu f M) ?hm17 ?hb17 ?hd17 ?hc17 ?h017 ?hh17 ?hq17); (case' hm17 => kernel_rfl); (case' hb17 => kernel_rfl); (case' hd17 => kernel_rfl); (case' hc17 => kernel_rfl); (case' h017 => (exact ⟨rfl⟩)); (case' hh17 => (simp only [List.toList_toArray, List.length_cons, List.length_nil, Nat.reduceAdd]; repeat' (first | ((with_reducible show LH _ _ _ _); first | exact RU | (with_reducible refine Kj ?_ ?_)) | ((with_reducible show RX _ _ _ _); first | ((with_reducible show RX _ (jP _ 2) _ _); (with_reducible refine PI (L := gy) (fun K hK => ?_))) | ((with_reducible show RX _ (jP _ 6) _ _); exact UN f M hnn rfl) | (with_reducible refine Zm (n0 := 6) (L := gy) (fun K hK => ?_))) | ((with_reducible show JX _ _ _ _ _ _); simp (maxSteps := 2000000) only [go_sem, reduceIte, reduceCtorEq, xA, xL, xD, xE, xM, xS, xB, Tryz.f12, Tryz.f85, Tryz.f41, bC, hv, hw, ht1, CQ, Aj, lV, l8, jh, mF, maxLen]) | ((with_reducible show Nq _ _ _ _); simp (maxSteps := 2000000) only [go_sem, reduceIte, reduceCtorEq, xA, xL, xD, xE, xM, xS, xB, Tryz.f12, Tryz.f85, Tryz.f41, bC, hv, hw, ht1, CQ, Aj, lV, l8, jh, mF, maxLen]) | (refine nP (k := 43) MZ (z8 (TD f.n (fB f.N) (by omega)) (i := 8) rfl) ?_ ?_) | ((with_reducible refine Need.mk ?_); trivial) | ((with_reducible show fG _ _ _ _ _); simp only [GL]) | ((with_reducible refine hK _ ?_); clear hK K) | ((with_reducible show Leaf _ _); exact ⟨rfl⟩)))); (case' hq17 => (simp only [go_sem])))
 | (with_reducible refine wO (c := Code.region 18 _ false) [8] ?_ (aP 18 [2,4,5] ?_)))
 | ((with_reducible show AW _ (Code.loop _) _ _); first
 | ((with_reducible refine aL (c := (Code.seq (Code.seq (Code.region 1 _ _) _) _)) (ι := Nat) [0,1] (fun v => [(3, iA .i64 ((v : Int) - 1))]) (fun v => [(4, [.iv (.g (.int .i64 (RI f M v : Int)))])]) (fun v => v <= f.n /\ (∀ j, v <= j -> j < f.n -> (f.N j).nu ≠ M.nu)) (fun v => v) f.n ?lg1 ?l11 ?l21 ?li1 ?lr1); (case' lg1 => rintro v _); (case' li1 => try (exact ⟨Nat.le_refl _, fun j h1 h2 => absurd h2 (by omega)⟩)); (case' lr1 => rintro v ⟨hvn, hai⟩ KR hR1; have ht1 : ((v : Int) - 1).toNat = v - 1 := (by omega); simp only [bD, dD, hset, lk, if_true, if_false, xE, reduceIte, zN, hv, hw, ht1, CQ, Aj, lV, l8, jh, mF, maxLen]))))
 | ((first | (with_reducible refine And.intro ?_ ?_) | (with_reducible refine Need.mk ?_)); focus (first | exact Gb _ | first | exact True.intro | omega | (intro _; first | exact True.intro | (with_reducible assumption)) | (simp (disch := omega) only [Bool.and_eq_true, Bool.or_eq_true, decide_eq_true_eq, bne_iff_ne, ne_eq] at *; omega)))
 | (with_reducible refine aJ ?_)
 | ((with_reducible show bL _ _ _ _ _ _); first
 | ((with_reducible refine aM ?_ ?_) <;> (intro hc; (try simp only [zB, zC, reduceCtorEq] at hc); ((try (have e0 : v = 0 := (by omega); subst e0))); (try (exfalso; omega)))))
 | ((with_reducible refine And.intro ?_ ?_); focus ((with_reducible show gV _ _ _ = true); kernel_rfl))
 | ((with_reducible show aW _ _ _ _ _ _ _ _ _ _); first
 | (refine aF (k := 44) NV (aeM (YT f M) (X8 hf ho hnn) (show f.k <= 1000 from ajx hv) _ _ (fun i o _ _ => IV.bG _) (acu (f := f) (M := M))) ?_ ?_)
 | (refine aF (k := 26) j3 (uz f hf) ?_ ?_)
 | ((refine dw (k := 41) Tryz.func41 rfl Mq (by rw [Tryz.ntmps41]; simp) ?_ ?_ (fun K hK => ?_)); (focus (exact True.intro)); (focus ((simp [jo]; done))); simp only [Tryz.ntmps41, List.map_cons, List.map_nil, List.nil_append, List.cons_append, List.append_nil, LV.tv, au, Nat.zero_add, Nat.reduceAdd]))
 | ((with_reducible show bM _ _ _ _ _ _ _ _ _ _); first
 | (refine aO (k := 18) jm (fun hg => pO M ho) ?_ ?_)
 | (refine aO (k := 19) qH (fun hg => Xi (f.N (v - 1)) M (hf.nn (v - 1) (by omega)) ho) ?_ ?_))
 | ((with_reducible refine hR1 _ (v - 1) ?_); (try clear hR1 KR))
 | ((with_reducible refine Told.mk ?_); simp only [go_sem, reduceIte, reduceCtorEq, xA, xL, xD, xE, xM, xS, xB, bC, hv, hw, ht1, CQ, Aj, lV, l8, jh, mF, maxLen] <;> ((((try simp (disch := omega) only [aY, Int.natCast_add, Int.cast_ofNat_Int, and_true, true_and, and_self]); (repeat' (first | omega | (with_reducible refine And.intro ?_ ?_) | ((exact abB hai (by omega))) | ((exact afd hv (by assumption) (by assumption) (by assumption))) | ((exact afm hv (by assumption) (by assumption) (by assumption) (by assumption))))); done))))
 | ((fail_if_success (with_reducible show AW _ _ _ _)); simp (maxSteps := 2000000) only [go_sem, reduceIte, reduceCtorEq, xA, xL, xD, xE, xM, xS, xB, Tryz.f12, Tryz.f85, Tryz.f41, bC, hv, hw, ht1, CQ, Aj, lV, l8, jh, mF, maxLen])
 | ((fail_if_success (with_reducible show AW _ _ _ _)); simp (disch := omega) only [aY, jy, jH])
 | ((with_reducible show aW _ _ _ _ _ _ (.yld _) _ _ _); (refine kU (by simp only [Eh, if_true]; exact rfl) ?_ (by simp) ?_ ?_ (fun K hK => ?_)); (focus (exact True.intro)); (focus (simp [mE])); (focus ((simp [jo]; done))); simp only [iT, gf, if_true, Nat.reduceAdd])
 | ((with_reducible refine hK _ ?_); clear hK K)
 | (with_reducible apply_assumption -exfalso only [*]))
  all_goals first | (exfalso; omega) | (have e0 : v - 1 = iN f M := Vx hv (by omega) (by first | assumption | exact (by assumption : _ /\ _).1); have h8 : iN f M < f.n /\ (f.N (iN f M)).nu = M.nu := ⟨by omega, by rw [<- e0]; first | assumption | exact (by assumption : _ /\ _).1⟩; first | (have e := adW ⟨hv, hw⟩ h2 h8 (by rw [<- e0]; exact (by assumption : _ /\ _).2); rw [vO (by omega), e]; unfold oo; (repeat' (first | exact rfl | (with_reducible refine And.intro ?_ ?_))); done) | (have e := aj2 ⟨hv, hw⟩ h2 h8 (by rw [<- e0]; exact Or.resolve_left (by assumption : (f.N (v - 1)).nu ≠ M.nu \/ qp (f.N (v - 1)) M = false) (fun q => q (by assumption))); rw [vO (by omega), e]; unfold oo; (repeat' (first | exact rfl | (with_reducible refine And.intro ?_ ?_))); done)) | (have e := MU ⟨hv, hw⟩ h2 (fun q => hai _ (by omega) (by omega) q.2); rw [if_pos (by omega)] at e; rw [vO (by omega), e]; unfold oo; (repeat' (first | exact rfl | (with_reducible refine And.intro ?_ ?_))); done) | (have e := MU ⟨hv, hw⟩ h2 (fun q => hai _ (by omega) (by omega) q.2); rw [if_neg (by omega)] at e; rw [Ee e, e]; (repeat' (first | exact rfl | (with_reducible refine And.intro ?_ ?_) | (intro i q hi hq; exact IV.bG _))); done) | skip
theorem CS (f : aj) (hf : f.Ok) (M : ah) (ho : M.Ok) : aA Tryz.prog 12 [iw f, .agg [.g (.int .i64 M.oc), .g (.int .i64 M.nu), .g (.int .i64 M.kd), .g (.int .i64 M.fr), .g (.int .i64 M.un), .g (.int .i64 M.ca), .lst 3 M.n (eO M.p)]] (.tup [iw (vX f M), .one (.g (.int .i64 (jZ f M)))]) := by
  by_cases h : dR f = false \/ gM M = false
  · exact rec_1 f hf M ho h
  · simp only [not_or, Bool.not_eq_false] at h
    by_cases h2 : 0 < f.n /\ (f.N 0).oc ≠ M.oc
    · exact rec_2 f hf M ho h.1 h.2 h2
    · exact akg f hf M ho h.1 h.2 h2
end Go.Proofs.YtcfechepbamhkaaGreat
set_option maxRecDepth 100000
set_option maxHeartbeats 4000000
namespace Go.Proofs.YtcfechepbamhkaaGreat
open Go.RowKit Go.Sea
open Nat renaming reduceAdd -> xA, reduceLT -> xL, reduceLeDiff -> xD, reduceEqDiff -> xE, reduceMul -> xM, reduceSub -> xS, reduceBEq -> xB
theorem mG : aK Tryz.prog 12 = true := by kernel_rfl
theorem ZU : aK Tryz.prog 28 = true := by kernel_rfl
attribute [go_sem] mG ZU
theorem qO {f : aj} {M : ah} (h : jZ f M = 0) : dR f = true /\ gM M = true /\ f.n < 200 /\ (0 < f.n -> (f.N 0).oc = M.oc) /\ ¬ (iN f M < f.n /\ (f.N (iN f M)).nu = M.nu) := by
  unfold jZ at h
  split at h
  · rename_i hv
    split at h
    · cases h
    · rename_i h2
      split at h
      · split at h <;> cases h
      · rename_i h3
        split at h
        · cases h
        · rename_i h4
          have := (lW (iE hv.1).2.2).1
          exact ⟨hv.1, hv.2, by omega, fun g => Classical.byContradiction fun q => h2 ⟨g, q⟩, h3⟩
  · cases h
theorem CY {f : aj} (hf : f.Ok) {M : ah} (ho : M.Ok) : (vX f M).Ok := by
  by_cases h : jZ f M = 0
  · rw [Ee h]; exact abU (X8 hf ho (by have := (qO h).2.2.1; omega))
  · rw [vO h]; exact FP
def kE (f g : aj) : Nat -> aj
  | 0 => f
  | i + 1 => if jZ (kE f g i) (g.N i) = 0 then vX (kE f g i) (g.N i) else kE f g i
theorem Yu (f g : aj) : kE f g 0 = f := rfl
theorem Ar {f g : aj} {i : Nat} (h : jZ (kE f g i) (g.N i) = 0) : kE f g (i + 1) = vX (kE f g i) (g.N i) := by show (if _ then _ else _) = _; rw [if_pos h]
theorem yB {f g : aj} {i : Nat} (h : jZ (kE f g i) (g.N i) ≠ 0) : kE f g (i + 1) = kE f g i := by show (if _ then _ else _) = _; rw [if_neg h]
theorem LQ {f g : aj} (hf : f.Ok) (hgO : g.Ok) : ∀ i, i <= g.n -> (kE f g i).Ok
  | 0, _ => hf
  | i + 1, h => by
    have ih := LQ hf hgO i (by omega)
    by_cases e : jZ (kE f g i) (g.N i) = 0
    · rw [Ar e]; exact CY ih (hgO.nn i (by omega))
    · rw [yB e]; exact ih
def mgB (f g : aj) (i : Nat) : Bool := decide (jZ (kE f g i) (g.N i) ≠ 0 /\ jZ (kE f g i) (g.N i) ≠ 5)
def mgJ (f g : aj) : Nat := jw (mgB f g) g.n
def yY (f g : aj) : Int := if dR f = true /\ dR g = true then (if mgJ f g < g.n then jZ (kE f g (mgJ f g)) (g.N (mgJ f g)) else 0) else 1
def mg (f g : aj) : aj := if yY f g = 0 then kE f g g.n else oo
theorem alz {f g : aj} (h : dR f = false \/ dR g = false) : yY f g = 1 /\ mg f g = oo := by
  have e : yY f g = 1 := by unfold yY; rw [if_neg]; rintro ⟨a, b⟩; rcases h with h | h <;> simp_all
  exact ⟨e, by unfold mg; rw [if_neg (by omega)]⟩
theorem alU {f g : aj} {i : Nat} {e : Int} (hv : dR f = true /\ dR g = true) (hi : (i : Int) < g.n) (hai : ∀ j, j < i -> mgB f g j = false) (he : jZ (kE f g i) (g.N i) = e) (h : e ≠ 0 /\ e ≠ 5) : e = yY f g /\ mg f g = oo := by
  have hJ : mgJ f g = i := l5 (decide_eq_true (by rw [he]; exact h)) hai _ (by omega)
  have e1 : yY f g = e := by unfold yY; rw [if_pos hv, hJ, if_pos (by omega), he]
  exact ⟨e1.symm, by unfold mg; rw [if_neg (by omega)]⟩
theorem akQ {f g : aj} {i : Nat} (hv : dR f = true /\ dR g = true) (hi : (g.n : Int) <= i) (hi2 : i <= g.n) (hai : ∀ j, j < i -> mgB f g j = false) : yY f g = 0 /\ mg f g = kE f g i := by
  have e0 : i = g.n := by omega
  subst e0
  have hJ : mgJ f g = g.n := pY _ hai
  have e1 : yY f g = 0 := by unfold yY; rw [if_pos hv, hJ, if_neg (by omega)]
  exact ⟨e1, by unfold mg; rw [if_pos e1]⟩
theorem adJ {f g : aj} {i : Nat} (h : jZ (kE f g i) (g.N i) = 0 \/ jZ (kE f g i) (g.N i) = 5) : mgB f g i = false := decide_eq_false (by omega)
theorem aln (f : aj) (hf : f.Ok) (g : aj) (hgO : g.Ok) (h : dR f = false \/ dR g = false) : aA Tryz.prog 25 [iw f, iw g] (.tup [iw (mg f g), .one (.g (.int .i64 (yY f g)))]) := by
  refine ak Tryz.func25 rfl (by rw [Tryz.ntmps25]; simp) ?_
  simp only [Tryz.ntmps25, zM, PT.tv, au, Nat.zero_add, Nat.reduceAdd]
  repeat' (first
 | ((with_reducible show AW _ _ _ _); first
 | (with_reducible first | refine aS (fun K hK => ?_) | refine aI ?_ | refine aT ?_ | refine aC ?_)
 | (first
 | (with_reducible first | refine aP 0 [0,1] ?_ | refine aP 1 [2,3,4] ?_ | refine aP 2 [4] ?_)))
 | ((first | (with_reducible refine And.intro ?_ ?_) | (with_reducible refine Need.mk ?_)); focus (first | exact True.intro | (intro _; (with_reducible assumption)) | (simp; done)))
 | (with_reducible refine aJ ?_)
 | ((with_reducible show bL _ _ _ _ _ _); first
 | ((with_reducible refine aM ?_ ?_) <;> (intro hc; (try simp only [zB, zC, reduceCtorEq] at hc); (try (exfalso; contradiction)))))
 | ((with_reducible show aW _ _ _ _ _ _ _ _ _ _); (refine aF (k := 26) j3 (uz f hf) ?_ ?_))
 | ((with_reducible show bM _ _ _ _ _ _ _ _ _ _); (refine aO (k := 26) j3 (fun hg => uz g hgO) ?_ ?_))
 | ((fail_if_success (with_reducible show AW _ _ _ _)); simp (maxSteps := 2000000) only [go_sem, reduceIte, reduceCtorEq, xA, xL, xD, xE, xM, xS, xB, Tryz.f25, bC, h])
 | ((with_reducible refine hK _ ?_); clear hK K))
  all_goals first | (have e := alz h; rw [e.1, e.2]; unfold oo; (repeat' (first | exact rfl | (with_reducible refine And.intro ?_ ?_))); done) | (exfalso; rcases h with h | h <;> simp_all; done) | skip
theorem alE (f : aj) (hf : f.Ok) (g : aj) (hgO : g.Ok) (hv : dR f = true /\ dR g = true) : aA Tryz.prog 25 [iw f, iw g] (.tup [iw (mg f g), .one (.g (.int .i64 (yY f g)))]) := by
  have hk := hf.k
  have hgn := hgO.n
  have hso := fun i hi => LQ hf hgO i hi
  refine ak Tryz.func25 rfl (by rw [Tryz.ntmps25]; simp) ?_
  simp only [Tryz.ntmps25, zM, PT.tv, au, Nat.zero_add, Nat.reduceAdd]
  repeat' (first
 | ((with_reducible show AW _ _ _ _); first
 | (with_reducible first | refine aS (fun K hK => ?_) | refine aI ?_ | refine aX ?_ | refine aT ?_ | refine aC ?_ | refine aB ?_)
 | (first
 | (with_reducible first | refine aP 0 [0,1] ?_ | refine aP 1 [2,3,4] ?_ | refine aP 3 [2,3,4] ?_ | refine aP 4 [2,4,20,21,22] ?_ | refine aP 5 [2,4,20,21,22] ?_ | refine aP 6 [2,4,7,20,21,22] ?_ | refine aP 7 [2,4,8,9,20,21,22] ?_ | refine aP 8 [4,9] ?_ | refine aP 9 [2,4,8,9,20,21,22,32] ?_ | refine aP 10 [2,4,8,20,21,22] ?_ | refine aP 11 [2,4,9,20,21,22,32] ?_ | refine aP 12 [2,4,20,21,22] ?_ | refine aP 13 [2,4] ?_))
 | ((with_reducible show AW _ (Code.loop _) _ _); first
 | ((with_reducible refine aL (c := (Code.seq (Code.region 4 _ _) _)) (ι := Nat) [2,4,20,21] (fun i => [(22, iA .i64 (i : Int))]) (fun i => [(0, [.iv (.lst 13 (kE f g i).k (ji (kE f g i).S)), .iv (.lst 7 (kE f g i).n (fB (kE f g i).N))])]) (fun i => i <= g.n /\ (∀ j, j < i -> mgB f g j = false)) (fun i => g.n - i) 0 ?lg4 ?l14 ?l24 ?li4 ?lr4); (case' lg4 => rintro i _); (case' li4 => try (exact ⟨Nat.zero_le _, fun i hi => absurd hi (Nat.not_lt_zero _)⟩)); (case' lr4 => rintro i ⟨hi, hai⟩ KR hR4; simp only [bD, dD, hset, lk, if_true, if_false, xE, reduceIte, zN, hv.1, hv.2, Yu]))))
 | ((first | (with_reducible refine And.intro ?_ ?_) | (with_reducible refine Need.mk ?_)); focus (first | exact True.intro | omega | (intro _; exact True.intro)))
 | (with_reducible refine aJ ?_)
 | ((with_reducible show bL _ _ _ _ _ _); first
 | ((with_reducible refine aM ?_ ?_) <;> (intro hc; (try simp only [zB, zC, reduceCtorEq] at hc); (try (exfalso; contradiction)))))
 | ((with_reducible show aW _ _ _ _ _ _ _ _ _ _); first
 | (refine aF (k := 26) j3 (uz f hf) ?_ ?_)
 | (refine aF (k := 12) mG (CS (kE f g i) (hso i hi) (g.N i) (hgO.nn i (by omega))) ?_ ?_))
 | ((with_reducible show bM _ _ _ _ _ _ _ _ _ _); (refine aO (k := 26) j3 (fun hg => uz g hgO) ?_ ?_))
 | ((with_reducible refine hR4 _ (i + 1) ?_); (try clear hR4 KR))
 | ((with_reducible refine Told.mk ?_); simp only [go_sem, reduceIte, reduceCtorEq, xA, xL, xD, xE, xM, xS, xB, bC, hv.1, hv.2, Yu] <;> ((((try simp (disch := omega) only [aY, Int.natCast_add, Int.cast_ofNat_Int, and_true, true_and, and_self]); (repeat' (first | omega | (with_reducible refine And.intro ?_ ?_) | ((exact all_succ (by assumption) (adJ (by first | exact Or.inl (by assumption) | exact Or.inr (by assumption))))) | ((rw [Ar (by assumption)]; exact Or.inl rfl)) | ((rw [yB (by assumption)]; exact Or.inl rfl)))); done))))
 | ((fail_if_success (with_reducible show AW _ _ _ _)); simp (maxSteps := 2000000) only [go_sem, reduceIte, reduceCtorEq, xA, xL, xD, xE, xM, xS, xB, Tryz.f25, bC, hv.1, hv.2, Yu])
 | ((with_reducible refine hK _ ?_); clear hK K)
 | (with_reducible apply_assumption -exfalso only [*]))
  all_goals first | (have e := akQ hv (by omega) hi hai; rw [e.1, e.2]; (repeat' (first | exact rfl | (with_reducible refine And.intro ?_ ?_) | (intro i q hi hq; exact IV.bG _))); done) | (have e := alU hv (by omega) hai rfl ⟨by omega, by omega⟩; rw [<- e.1, e.2]; unfold oo; (repeat' (first | exact rfl | (with_reducible refine And.intro ?_ ?_))); done) | (exfalso; omega) | skip
theorem ahH (f : aj) (hf : f.Ok) (g : aj) (hgO : g.Ok) : aA Tryz.prog 25 [iw f, iw g] (.tup [iw (mg f g), .one (.g (.int .i64 (yY f g)))]) := by
  by_cases h : dR f = true /\ dR g = true
  · exact alE f hf g hgO h
  · exact aln f hf g hgO (by
      cases hq : dR f
      · exact Or.inl rfl
      · cases hr : dR g
        · exact Or.inr rfl
        · exact absurd ⟨hq, hr⟩ h)
end Go.Proofs.YtcfechepbamhkaaGreat
set_option maxRecDepth 100000
set_option maxHeartbeats 4000000
namespace Go.Proofs.YtcfechepbamhkaaGreat
open Go.RowKit Go.Sea
open Nat renaming reduceAdd -> xA, reduceLT -> xL, reduceLeDiff -> xD, reduceEqDiff -> xE, reduceMul -> xM, reduceSub -> xS, reduceBEq -> xB
theorem F5 : aK Tryz.prog 84 = true := by kernel_rfl
theorem Ui : aK Tryz.prog 123 = true := by kernel_rfl
attribute [go_sem] F5 Ui
theorem YM {s : bE} {n : Nat} {N : Nat -> ah} (h : Q7 s n N = true) : gK s = true /\ wZ n N = true /\ n <= 200 := by
  unfold Q7 at h; simp only [Bool.and_eq_true] at h; exact ⟨h.1, h.2, (lW h.2).1⟩
theorem alb (s : bE) (n : Nat) (N : Nat -> ah) (hs : s.Ok) (hn : n <= 9223372036854775807) (hN : ∀ i, i < n -> (N i).Ok) (hB : Q7 s n N = false) : aA Tryz.prog 71 [(qQ s), .one (.lst 7 n (fB N))] (.tup [.one (.g (.int .i64 (YQ s n N))), .one (.g (.int .i64 (YP s n N)))]) := by
  refine ak Tryz.func71 rfl (by rw [Tryz.ntmps71]; simp) ?_
  simp only [qQ, Tryz.ntmps71, zM, PT.tv, au, Nat.zero_add, Nat.reduceAdd]
  repeat' (first
 | ((with_reducible show AW _ _ _ _); first
 | (with_reducible first | refine aS (fun K hK => ?_) | refine aI ?_ | refine aT ?_ | refine aC ?_)
 | (first
 | (with_reducible first | refine aP 0 [0,1] ?_ | refine aP 1 [1,2] ?_ | refine aP 2 [] ?_)))
 | ((first | (with_reducible refine And.intro ?_ ?_) | (with_reducible refine Need.mk ?_)); focus (first | exact True.intro | (intro _; (with_reducible assumption)) | (simp; done)))
 | (with_reducible refine aJ ?_)
 | ((with_reducible show bL _ _ _ _ _ _); first
 | ((with_reducible refine aM ?_ ?_) <;> (intro hc; (try simp only [zB, zC, reduceCtorEq] at hc); (try (exfalso; contradiction)))))
 | ((with_reducible show aW _ _ _ _ _ _ _ _ _ _); first
 | (refine aF (k := 48) jY (kR s hs) ?_ ?_))
 | ((with_reducible show bM _ _ _ _ _ _ _ _ _ _); first
 | (refine aO (k := 82) zw (fun hg => XD n N hn hN) ?_ ?_))
 | ((fail_if_success (with_reducible show AW _ _ _ _)); simp (maxSteps := 2000000) only [go_sem, reduceIte, reduceCtorEq, xA, xL, xD, xE, xM, xS, xB, Tryz.f71, bC])
 | ((with_reducible refine hK _ ?_); clear hK K))
  all_goals (first | (have e := aec hB; rw [e.1, e.2]; (repeat' (first | exact rfl | (with_reducible refine And.intro ?_ ?_))); done) | exact (ajc hB hc).elim)
theorem amf (s : bE) (n : Nat) (N : Nat -> ah) (hs : s.Ok) (hn : n <= 9223372036854775807) (hN : ∀ i, i < n -> (N i).Ok) (hB : Q7 s n N = true) (h0 : (mo s N n).length = 0) : aA Tryz.prog 71 [(qQ s), .one (.lst 7 n (fB N))] (.tup [.one (.g (.int .i64 (YQ s n N))), .one (.g (.int .i64 (YP s n N)))]) := by
  have h3 := YM hB
  have hv := h3.1
  have hw := h3.2.1
  have hn2 := h3.2.2
  have hle := zJ s N n
  have hlt : (((mo s N n).length : Int) > 0) = False := eq_false (by omega)
  have hms := akG h0
  refine ak Tryz.func71 rfl (by rw [Tryz.ntmps71]; simp) ?_
  simp only [qQ, Tryz.ntmps71, zM, PT.tv, au, Nat.zero_add, Nat.reduceAdd]
  repeat' (first
 | ((with_reducible show AW _ _ _ _); first
 | (with_reducible first | refine aS (fun K hK => ?_) | refine aI ?_ | refine aX ?_ | refine aT ?_ | refine aC ?_ | refine aB ?_)
 | (first
 | (with_reducible first | refine aP 0 [0,1] ?_ | refine aP 1 [1,2] ?_ | refine aP 3 [1,2] ?_ | refine aP 4 [1,2,6] ?_ | refine aP 5 [1,6,7] ?_ | refine aP 7 [1,6] ?_ | refine aP 8 [1,6,8] ?_ | refine aP 9 [6,8,29,30,31] ?_ | refine aP 10 [6,8,29,30,31] ?_ | refine aP 11 [6,8,10,29,30,31] ?_ | refine aP 12 [6,10,29,30,31] ?_ | refine aP 13 [6,8,29,30,31] ?_ | refine aP 14 [8] ?_))
 | ((with_reducible show AW _ (Code.loop _) _ _); first
 | ((with_reducible refine aL (c := (Code.seq (Code.region 9 _ _) _)) (ι := Nat) [6,29,30] (fun i => [(8, iA .i64 (upL N (JG (mo s N n)) i)), (31, iA .i64 (i : Int))]) (fun i => []) (fun i => i <= n) (fun i => n - i) 0 ?lg9 ?l19 ?l29 ?li9 ?lr9); (case' lg9 => rintro i _); (case' li9 => try (omega)); (case' lr9 => rintro i hi KR hR9; simp only [bD, dD, hset, lk, if_true, if_false, xE, reduceIte, zN, hv, hw, hlt]))))
 | ((first | (with_reducible refine And.intro ?_ ?_) | (with_reducible refine Need.mk ?_)); focus (first | exact True.intro | omega | (intro _; exact True.intro)))
 | (with_reducible refine aJ ?_)
 | ((with_reducible show bL _ _ _ _ _ _); first
 | ((with_reducible refine aM ?_ ?_) <;> (intro hc; (try simp only [zB, zC, reduceCtorEq] at hc); (try (exfalso; contradiction)))))
 | ((with_reducible show aW _ _ _ _ _ _ _ _ _ _); first
 | (refine aF (k := 48) jY (kR s hs) ?_ ?_)
 | (refine aF (k := 84) F5 (adr s n N hs hn hN hv (by omega)) ?_ ?_))
 | ((with_reducible show bM _ _ _ _ _ _ _ _ _ _); first
 | (refine aO (k := 82) zw (fun hg => XD n N hn hN) ?_ ?_))
 | ((with_reducible refine hR9 _ (i + 1) ?_); (try clear hR9 KR))
 | ((with_reducible refine Told.mk ?_); simp only [go_sem, reduceIte, reduceCtorEq, xA, xL, xD, xE, xM, xS, xB, bC, hv, hw, hlt] <;> ((((try simp (disch := omega) only [aY, Int.natCast_add, Int.cast_ofNat_Int, and_true, true_and, and_self]); (repeat' (first | omega | rfl | (with_reducible refine And.intro ?_ ?_) | ((first | (rw [adS (by rw [hms]; omega)]) | (rw [adE (by rw [hms]; omega)]))))); done))))
 | ((fail_if_success (with_reducible show AW _ _ _ _)); simp (maxSteps := 2000000) only [go_sem, reduceIte, reduceCtorEq, xA, xL, xD, xE, xM, xS, xB, Tryz.f71, bC, hv, hw, hlt])
 | ((with_reducible refine hK _ ?_); clear hK K)
 | (with_reducible apply_assumption -exfalso only [*]))
  all_goals ((have e := ajz hB; rw [e.1, e.2]; have e0 : n = i := (by omega); subst e0; (repeat' (first | exact rfl | (with_reducible refine And.intro ?_ ?_))); done))
theorem ajq (s : bE) (n : Nat) (N : Nat -> ah) (hs : s.Ok) (hn : n <= 9223372036854775807) (hN : ∀ i, i < n -> (N i).Ok) (hB : Q7 s n N = true) (h0 : (mo s N n).length ≠ 0) : aA Tryz.prog 71 [(qQ s), .one (.lst 7 n (fB N))] (.tup [.one (.g (.int .i64 (YQ s n N))), .one (.g (.int .i64 (YP s n N)))]) := by
  have h3 := YM hB
  have hv := h3.1
  have hw := h3.2.1
  have hn2 := h3.2.2
  have hle := zJ s N n
  have hlt : (((mo s N n).length : Int) > 0) = True := eq_true (by omega)
  have hms := ajA h0
  refine ak Tryz.func71 rfl (by rw [Tryz.ntmps71]; simp) ?_
  simp only [qQ, Tryz.ntmps71, zM, PT.tv, au, Nat.zero_add, Nat.reduceAdd]
  repeat' (first
 | ((with_reducible show AW _ _ _ _); first
 | (with_reducible first | refine aS (fun K hK => ?_) | refine aI ?_ | refine aX ?_ | refine aT ?_ | refine aC ?_ | refine aB ?_)
 | (first
 | (with_reducible first | refine aP 0 [0,1] ?_ | refine aP 1 [1,2] ?_ | refine aP 3 [1,2] ?_ | refine aP 4 [1,2,6] ?_ | refine aP 5 [1,6,7] ?_ | refine aP 6 [1,7] ?_ | refine aP 7 [1,6] ?_ | refine aP 8 [1,6,8] ?_ | refine aP 9 [6,8,29,30,31] ?_ | refine aP 10 [6,8,29,30,31] ?_ | refine aP 11 [6,8,10,29,30,31] ?_ | refine aP 12 [6,10,29,30,31] ?_ | refine aP 13 [6,8,29,30,31] ?_ | refine aP 14 [8] ?_))
 | ((with_reducible show AW _ (Code.loop _) _ _); first
 | ((with_reducible refine aL (c := (Code.seq (Code.region 9 _ _) _)) (ι := Nat) [6,29,30] (fun i => [(8, iA .i64 (upL N (JG (mo s N n)) i)), (31, iA .i64 (i : Int))]) (fun i => []) (fun i => i <= n) (fun i => n - i) 0 ?lg9 ?l19 ?l29 ?li9 ?lr9); (case' lg9 => rintro i _); (case' li9 => try (omega)); (case' lr9 => rintro i hi KR hR9; simp only [bD, dD, hset, lk, if_true, if_false, xE, reduceIte, zN, hv, hw, hlt]))))
 | ((first | (with_reducible refine And.intro ?_ ?_) | (with_reducible refine Need.mk ?_)); focus (first | exact True.intro | omega | (intro _; exact True.intro)))
 | (with_reducible refine aJ ?_)
 | ((with_reducible show bL _ _ _ _ _ _); first
 | ((with_reducible refine aM ?_ ?_) <;> (intro hc; (try simp only [zB, zC, reduceCtorEq] at hc); (try (exfalso; contradiction)))))
 | ((with_reducible show aW _ _ _ _ _ _ _ _ _ _); first
 | (refine aF (k := 48) jY (kR s hs) ?_ ?_)
 | (refine aF (k := 84) F5 (adr s n N hs hn hN hv (by omega)) ?_ ?_))
 | ((with_reducible show bM _ _ _ _ _ _ _ _ _ _); first
 | (refine aO (k := 82) zw (fun hg => XD n N hn hN) ?_ ?_))
 | ((with_reducible refine hR9 _ (i + 1) ?_); (try clear hR9 KR))
 | ((with_reducible refine Told.mk ?_); simp only [go_sem, reduceIte, reduceCtorEq, xA, xL, xD, xE, xM, xS, xB, bC, hv, hw, hlt] <;> ((((try simp (disch := omega) only [aY, Int.natCast_add, Int.cast_ofNat_Int, and_true, true_and, and_self]); (repeat' (first | omega | rfl | (with_reducible refine And.intro ?_ ?_) | ((first | (rw [adS (by rw [hms]; omega)]) | (rw [adE (by rw [hms]; omega)]))))); done))))
 | ((fail_if_success (with_reducible show AW _ _ _ _)); simp (maxSteps := 2000000) only [go_sem, reduceIte, reduceCtorEq, xA, xL, xD, xE, xM, xS, xB, Tryz.f71, bC, hv, hw, hlt])
 | ((with_reducible refine hK _ ?_); clear hK K)
 | (with_reducible apply_assumption -exfalso only [*]))
  all_goals ((have e := ajz hB; rw [e.1, e.2]; have e0 : n = i := (by omega); subst e0; (repeat' (first | exact rfl | (with_reducible refine And.intro ?_ ?_))); done))
theorem amm (s : bE) (n : Nat) (N : Nat -> ah) (hs : s.Ok) (hn : n <= 9223372036854775807) (hN : ∀ i, i < n -> (N i).Ok) : aA Tryz.prog 71 [(qQ s), .one (.lst 7 n (fB N))] (.tup [.one (.g (.int .i64 (YQ s n N))), .one (.g (.int .i64 (YP s n N)))]) := by
  cases hB : Q7 s n N with
  | false => exact alb s n N hs hn hN hB
  | true =>
    by_cases h0 : (mo s N n).length = 0
    · exact amf s n N hs hn hN hB h0
    · exact ajq s n N hs hn hN hB h0
end Go.Proofs.YtcfechepbamhkaaGreat
set_option maxRecDepth 100000
set_option maxHeartbeats 4000000
namespace Go.Proofs.YtcfechepbamhkaaGreat
open Go.RowKit Go.Sea
open Nat renaming reduceAdd -> xA, reduceLT -> xL, reduceLeDiff -> xD, reduceEqDiff -> xE, reduceMul -> xM, reduceSub -> xS, reduceBEq -> xB
theorem qB : aK Tryz.prog 31 = true := by kernel_rfl
theorem akE : lG Tryz.prog 68 = some (false, 1) := by kernel_rfl
attribute [go_sem] qB akE
end Go.Proofs.YtcfechepbamhkaaGreat
namespace Go.Proofs.YtcfechepbamhkaaGreat
open Go.RowKit Go.Sea
structure Ej where
  nu : Int
  q : Nat
  a : Nat -> Int
def uo : Ej := ⟨0, 0, fun _ => 0⟩
def c2 (s : Ej) : List CV := [.iv (.g (.int .i64 s.nu)), .iv (.lst 1 s.q (bC s.a))]
end Go.Proofs.YtcfechepbamhkaaGreat
namespace Go.Proofs.YtcfechepbamhkaaGreat
open Go.RowKit Go.Sea
def kJ (l : List Int) (k : Int) : Option PT := if l.contains k = true then some (.one (.g (.bool true))) else none
theorem eF : kJ [] = fun _ => none := rfl
theorem F8 {l : List Int} {k : Int} (h : l.contains k = true) : kJ l k = some (.one (.g (.bool true))) := by unfold kJ; rw [if_pos h]
theorem FR {l : List Int} {k : Int} (h : l.contains k = false) : kJ l k = none := by unfold kJ; rw [if_neg (by rw [h]; simp)]
theorem Uf (l : List Int) (k : Int) : jr (kJ l) k (.one (.g (.bool true))) = kJ (l ++ [k]) := by
  funext j
  unfold jr kJ
  by_cases h : j = k
  · rw [if_pos h, if_pos (by simp [h])]
  · rw [if_neg h]
    have : (l ++ [k]).contains j = l.contains j := by
      rw [Bool.eq_iff_iff]; simp [h]
    rw [this]
theorem XH {l : List Int} {k : Int} {n : Nat} (h : l.contains k = false) : kP n (kJ l) k = n + 1 := by unfold kP; rw [FR h]; rfl
def nuL (l : List Ej) (i : Nat) : List Int := (List.range i).map fun j => (l.getD j uo).nu
structure VS (l : List Ej) : Prop where
  n : l.length <= 200
  nu : ∀ i, i < l.length -> 1 <= (l.getD i uo).nu /\ (l.getD i uo).nu <= 10000
  r : ∀ i j, i < j -> j < l.length -> (l.getD i uo).nu < (l.getD j uo).nu
  q : ∀ i, i < l.length -> (l.getD i uo).q <= 200
  s : ∀ i, i < l.length -> ∀ j, 0 < j -> j < (l.getD i uo).q -> (l.getD i uo).a (j - 1) < (l.getD i uo).a j
  a : ∀ i, i < l.length -> ∀ j, j < (l.getD i uo).q -> (nuL l i).contains ((l.getD i uo).a j) = true
theorem abD {l : List Ej} {i : Nat} {x : Int} : (nuL l i).contains x = true ↔ ∃ j, j < i /\ (l.getD j uo).nu = x := by
  unfold nuL; simp
theorem VS.new {l : List Ej} (h : VS l) {i : Nat} (hi : i < l.length) : (nuL l i).contains (l.getD i uo).nu = false := by
  cases e : (nuL l i).contains (l.getD i uo).nu with
  | false => rfl
  | true =>
    obtain ⟨j, h1, h2⟩ := abD.1 e
    have := h.r j i h1 hi
    omega
structure DS (k : Nat) (d : Nat -> Int) : Prop where
  kk : k <= 200
  r : ∀ i j, i < j -> j < k -> d i < d j
  b : ∀ i, i < k -> 1 <= d i /\ d i <= 10000
theorem DS.new {k : Nat} {d : Nat -> Int} (h : DS k d) {i : Nat} (hi : i < k) : (lq i d).contains (d i) = false := by
  rw [MI]
  exact decide_eq_false fun ⟨j, h1, h2⟩ => by have := h.r j i h1 hi; omega
end Go.Proofs.YtcfechepbamhkaaGreat
namespace Go.Proofs.YtcfechepbamhkaaGreat
open Go.RowKit Go.Sea
def vF (l : List Int) (x : Int) : List Int := if l.contains x = true then l else l ++ [x]
theorem EW {l : List Int} {x : Int} (h : l.contains x = true) : vF l x = l := if_pos h
theorem EP {l : List Int} {x : Int} (h : l.contains x = false) : vF l x = l ++ [x] := if_neg (by rw [h]; simp)
theorem Ih {l : List Int} {x y : Int} : y ∈ vF l x ↔ y ∈ l \/ y = x := by
  cases h : l.contains x
  · rw [EP h]; simp
  · rw [EW h]
    exact ⟨Or.inl, fun g => g.elim id fun e => by rw [e]; exact List.contains_iff_mem.1 h⟩
theorem KQ {l : List Int} {x : Int} (h : l.Nodup) : (vF l x).Nodup := by
  cases e : l.contains x
  · rw [EP e]
    refine List.nodup_append.2 ⟨h, by simp, fun a ha b hb => ?_⟩
    simp only [List.mem_singleton] at hb
    rintro rfl
    rw [hb] at ha
    rw [List.contains_iff_mem.2 ha] at e; cases e
  · rw [EW e]; exact h
theorem Wp (l : List Int) (x : Int) : (vF l x).length <= l.length + 1 := by
  cases h : l.contains x
  · rw [EP h]; simp
  · rw [EW h]; omega
theorem nD (l : List Int) (x : Int) : jr (kJ l) x (.one (.g (.bool true))) = kJ (vF l x) /\ kP l.length (kJ l) x = (vF l x).length := by
  cases h : l.contains x
  · rw [EP h, Uf]; exact ⟨rfl, by rw [XH h]; simp⟩
  · rw [EW h]
    refine ⟨?_, by unfold kP; rw [F8 h]; rfl⟩
    funext j
    unfold jr
    by_cases e : j = x
    · rw [if_pos e, e, F8 h]
    · rw [if_neg e]
def msP (s : bE) (n : Nat) (N : Nat -> ah) (x : Int) : Bool := !iD s.q s.dn x && !knB n N s.ch x
def MP (s : bE) (n : Nat) (N : Nat -> ah) (a : Nat -> Int) (l : List Int) : Nat -> List Int
  | 0 => l
  | k + 1 => if msP s n N (a k) = true then vF (MP s n N a l k) (a k) else MP s n N a l k
def Ag (s : bE) (n : Nat) (N : Nat -> ah) : Nat -> List Int
  | 0 => []
  | i + 1 => if tX s (N i) = true then MP s n N ((N i).p (iV (N i) s.ch)).a (Ag s n N i) ((N i).p (iV (N i) s.ch)).q else Ag s n N i
def Lc (l : List Int) : List Int := l.mergeSort fun x y => decide (x <= y)
def msL (s : bE) (n : Nat) (N : Nat -> ah) : List Int := Lc (Ag s n N n)
theorem jA (s : bE) (n : Nat) (N : Nat -> ah) (a : Nat -> Int) (l : List Int) : MP s n N a l 0 = l := rfl
theorem jE (s : bE) (n : Nat) (N : Nat -> ah) : Ag s n N 0 = [] := rfl
theorem YJ {s : bE} {n : Nat} {N : Nat -> ah} {a : Nat -> Int} {l : List Int} {k : Nat} (h : msP s n N (a k) = true) : MP s n N a l (k + 1) = vF (MP s n N a l k) (a k) := by show (if _ then _ else _) = _; rw [if_pos h]
theorem YC {s : bE} {n : Nat} {N : Nat -> ah} {a : Nat -> Int} {l : List Int} {k : Nat} (h : msP s n N (a k) = false) : MP s n N a l (k + 1) = MP s n N a l k := by show (if _ then _ else _) = _; rw [if_neg (by rw [h]; simp)]
theorem Va {s : bE} {n : Nat} {N : Nat -> ah} {i : Nat} (h : tX s (N i) = true) : Ag s n N (i + 1) = MP s n N ((N i).p (iV (N i) s.ch)).a (Ag s n N i) ((N i).p (iV (N i) s.ch)).q := by show (if _ then _ else _) = _; rw [if_pos h]
theorem Tn {s : bE} {n : Nat} {N : Nat -> ah} {i : Nat} (h : tX s (N i) = false) : Ag s n N (i + 1) = Ag s n N i := by show (if _ then _ else _) = _; rw [if_neg (by rw [h]; simp)]
theorem MB (s : bE) (n : Nat) (N : Nat -> ah) (a : Nat -> Int) (l : List Int) : ∀ k, (MP s n N a l k).length <= l.length + k
  | 0 => Nat.le_refl _
  | k + 1 => by
    have ih := MB s n N a l k
    cases h : msP s n N (a k)
    · rw [YC h]; omega
    · rw [YJ h]; have := Wp (MP s n N a l k) (a k); omega
theorem DK {s : bE} {n : Nat} {N : Nat -> ah} {a : Nat -> Int} {l : List Int} (hl : l.Nodup) : ∀ k, (MP s n N a l k).Nodup
  | 0 => hl
  | k + 1 => by
    have ih := DK (s := s) (n := n) (N := N) (a := a) hl k
    cases h : msP s n N (a k)
    · rw [YC h]; exact ih
    · rw [YJ h]; exact KQ ih
theorem nJ (s : bE) (n : Nat) (N : Nat -> ah) : ∀ i, (Ag s n N i).Nodup
  | 0 => List.nodup_nil
  | i + 1 => by
    cases h : tX s (N i)
    · rw [Tn h]; exact nJ s n N i
    · rw [Va h]; exact DK (nJ s n N i) _
theorem JY {s : bE} {N : ah} (h : tX s N = true) : iU N s.ch = true := by
  unfold tX mU at h; simp only [Bool.and_eq_true] at h; exact h.1.2
theorem TJ {N : ah} {ch : Int} (h : iU N ch = true) (hb : gM N = true) : (N.p (iV N ch)).q <= 100 := by
  have h1 := (of_decide_eq_true hb).2 (iV N ch) (of_decide_eq_true h)
  exact (of_decide_eq_true h1.2).1.2.1
theorem Ny {s : bE} {n : Nat} {N : Nat -> ah} (hb : ∀ i, i < n -> gM (N i) = true) : ∀ i, i <= n -> (Ag s n N i).length <= 100 * i
  | 0, _ => Nat.le_refl _
  | i + 1, hi => by
    have ih := Ny hb (s := s) i (by omega)
    cases h : tX s (N i)
    · rw [Tn h]; omega
    · rw [Va h]
      have h1 := MB s n N ((N i).p (iV (N i) s.ch)).a (Ag s n N i) ((N i).p (iV (N i) s.ch)).q
      have h2 := TJ (JY h) (hb i (by omega))
      omega
theorem KH {a b : List Int} (h : a.Perm b) (hs : a.Pairwise (fun x y => x <= y)) : a = Lc b := by
  refine (h.trans (List.mergeSort_perm b _).symm).eq_of_pairwise (le := fun x y => decide (x <= y)) (fun x y _ _ h1 h2 => ?_) (hs.imp fun h => decide_eq_true h) (List.pairwise_mergeSort (by intro a b c; simp only [decide_eq_true_eq]; omega) (by intro a b; simp only [Bool.or_eq_true, decide_eq_true_eq]; omega) _)
  have h1 := of_decide_eq_true h1; have h2 := of_decide_eq_true h2; omega
theorem aaf (l : List Int) : (Lc l).length = l.length := List.length_mergeSort l
end Go.Proofs.YtcfechepbamhkaaGreat
set_option maxRecDepth 100000
set_option maxHeartbeats 4000000
namespace Go.Proofs.YtcfechepbamhkaaGreat
open Go.RowKit Go.Sea
open Nat renaming reduceAdd -> xA, reduceLT -> xL, reduceLeDiff -> xD, reduceEqDiff -> xE, reduceMul -> xM, reduceSub -> xS, reduceBEq -> xB
theorem U6 : aK Tryz.prog 124 = true := by kernel_rfl
theorem abP : aK Tryz.prog 75 = true := by kernel_rfl
theorem acU : aK Tryz.prog 76 = true := by kernel_rfl
attribute [go_sem] U6 abP acU
def stU (f : aj) (ch : Int) : Int := if iR f ch = 0 then YQ (f.S (jc f ch)) f.n f.N else 0
def Dn (f : aj) (ch : Int) : List Int := if iR f ch = 0 then msL (f.S (jc f ch)) f.n f.N else []
theorem alM {f : aj} {ch : Int} (h : iR f ch ≠ 0) : stU f ch = 0 /\ Dn f ch = [] := by unfold stU Dn; rw [if_neg h, if_neg h]; exact ⟨rfl, rfl⟩
theorem aeE {f : aj} {ch : Int} (h : iR f ch = 0) : stU f ch = YQ (f.S (jc f ch)) f.n f.N /\ Dn f ch = msL (f.S (jc f ch)) f.n f.N := by unfold stU Dn; rw [if_pos h, if_pos h]; exact ⟨rfl, rfl⟩
theorem aiR {f : aj} {ch : Int} (h : iR f ch = 0) : YP (f.S (jc f ch)) f.n f.N = 0 := by
  have ha := pq h
  unfold YP Q7
  rw [((iE ha.2.2.2).2.1 _ ha.2.1).1, (iE ha.2.2.2).2.2]; rfl
end Go.Proofs.YtcfechepbamhkaaGreat
set_option maxRecDepth 100000
set_option maxHeartbeats 4000000
namespace Go.Proofs.YtcfechepbamhkaaGreat
open Go.RowKit Go.Sea
open Nat renaming reduceAdd -> xA, reduceLT -> xL, reduceLeDiff -> xD, reduceEqDiff -> xE, reduceMul -> xM, reduceSub -> xS, reduceBEq -> xB
theorem Ye : aK Tryz.prog 122 = true := by kernel_rfl
theorem Mx : aK Tryz.prog 71 = true := by kernel_rfl
theorem NP : aK Tryz.prog 73 = true := by kernel_rfl
theorem XJ : JC Tryz.prog 112 = some 4 := by kernel_rfl
theorem afP : lG Tryz.prog 112 = some (false, 1) := by kernel_rfl
theorem aht : fJ Tryz.prog 112 = some [.iv (.g (.map none))] := by kernel_rfl
attribute [go_sem] Mx NP XJ afP aht
def Mg (N : Nat -> ah) (ch : Int) : Nat -> List Int
  | 0 => []
  | i + 1 => if mU (N i) ch = true then vF (Mg N ch i) (N i).nu else Mg N ch i
def YR (l : List Int) (a : Nat -> Int) : Nat -> List Int
  | 0 => l
  | j + 1 => vF (YR l a j) (a j)
theorem jB (N : Nat -> ah) (ch : Int) : Mg N ch 0 = [] := rfl
theorem adx {N : Nat -> ah} {ch : Int} {i : Nat} (h : mU (N i) ch = true) : Mg N ch (i + 1) = vF (Mg N ch i) (N i).nu := by show (if _ then _ else _) = _; rw [if_pos h]
theorem adC {N : Nat -> ah} {ch : Int} {i : Nat} (h : mU (N i) ch = false) : Mg N ch (i + 1) = Mg N ch i := by show (if _ then _ else _) = _; rw [if_neg (by rw [h]; simp)]
theorem jD (l : List Int) (a : Nat -> Int) : YR l a 0 = l := rfl
theorem adH (l : List Int) (a : Nat -> Int) (j : Nat) : YR l a (j + 1) = vF (YR l a j) (a j) := rfl
theorem MJ {N : Nat -> ah} {ch x : Int} : ∀ {i : Nat}, x ∈ Mg N ch i ↔ ∃ j, j < i /\ (N j).nu = x /\ mU (N j) ch = true
  | 0 => ⟨fun h => absurd h List.not_mem_nil, fun ⟨j, h, _⟩ => absurd h (Nat.not_lt_zero j)⟩
  | i + 1 => by
    have ih := @MJ N ch x i
    cases h : mU (N i) ch
    · rw [adC h, ih]
      exact ⟨fun ⟨j, h1, h2⟩ => ⟨j, by omega, h2⟩, fun ⟨j, h1, h2⟩ => ⟨j, by
        by_cases e : j = i
        · rw [e, h] at h2; exact absurd h2.2 (by simp)
        · omega, h2⟩⟩
    · rw [adx h, Ih, ih]
      constructor
      · rintro (⟨j, h1, h2⟩ | e)
        · exact ⟨j, by omega, h2⟩
        · exact ⟨i, by omega, e.symm, h⟩
      · rintro ⟨j, h1, h2⟩
        by_cases e : j = i
        · subst e; exact Or.inr h2.1.symm
        · exact Or.inl ⟨j, by omega, h2⟩
theorem NA {l : List Int} {a : Nat -> Int} {x : Int} : ∀ {q : Nat}, x ∈ YR l a q ↔ x ∈ l \/ ∃ j, j < q /\ a j = x
  | 0 => ⟨Or.inl, fun h => h.elim id fun ⟨j, h, _⟩ => absurd h (Nat.not_lt_zero j)⟩
  | q + 1 => by
    rw [adH, Ih, @NA l a x q]
    constructor
    · rintro ((h | ⟨j, h1, h2⟩) | h)
      · exact Or.inl h
      · exact Or.inr ⟨j, by omega, h2⟩
      · exact Or.inr ⟨q, by omega, h.symm⟩
    · rintro (h | ⟨j, h1, h2⟩)
      · exact Or.inl (Or.inl h)
      · by_cases e : j = q
        · subst e; exact Or.inr h2.symm
        · exact Or.inl (Or.inr ⟨j, by omega, h2⟩)
theorem adl {s : bE} {n : Nat} {N : Nat -> ah} {ch x : Int} (hc : s.ch = ch) : msP s n N x = !(YR (Mg N ch n) s.dn s.q).contains x := by
  have h : (YR (Mg N ch n) s.dn s.q).contains x = (knB n N ch x || iD s.q s.dn x) := by
    rw [Bool.eq_iff_iff, List.contains_iff_mem, Bool.or_eq_true]
    rw [NA, MJ]
    refine or_congr ?_ ?_
    · unfold knB; simp only [List.any_eq_true, List.mem_range, Bool.and_eq_true, decide_eq_true_eq]
    · unfold iD; simp only [decide_eq_true_eq]
  rw [h]; unfold msP; rw [hc]
  cases knB n N ch x <;> cases iD s.q s.dn x <;> rfl
theorem Nf {l ks : List Int} (hl : l.Nodup) (hn : ks.Nodup) (hk : ∀ x, x ∈ ks -> kJ l x ≠ none) (ha : ∀ x, (kJ l x).isSome = true -> x ∈ ks) : ks.reverse.mergeSort (fun x y => decide (x <= y)) = Lc l /\ ks.length = l.length := by
  have hm : ∀ x, x ∈ ks ↔ x ∈ l := fun x => by
    constructor
    · intro h
      have := hk x h
      cases e : l.contains x
      · exact absurd (FR e) this
      · exact List.contains_iff_mem.1 e
    · intro h
      exact ha x (by rw [F8 (List.contains_iff_mem.2 h)]; rfl)
  have hp : ks.Perm l := (List.perm_ext_iff_of_nodup hn hl).2 hm
  refine ⟨?_, hp.length_eq⟩
  refine KH (((List.mergeSort_perm _ _).trans (List.reverse_perm ks)).trans hp) ((List.pairwise_mergeSort (le := fun x y => decide (x <= y)) (by intro a b c; simp only [decide_eq_true_eq]; omega) (by intro a b; simp only [Bool.or_eq_true, decide_eq_true_eq]; omega) _).imp fun h => of_decide_eq_true h)
theorem Y8 {l ks : List Int} (hl : l.Nodup) (hn : ks.Nodup) (hk : ∀ x, x ∈ ks -> kJ l x ≠ none) {kk : Int} {yy : PT} (hy : kJ l kk = some yy) (hnn : ¬ kk ∈ ks) : (kk :: ks).Nodup /\ (∀ x, x ∈ kk :: ks -> kJ l x ≠ none) /\ ks.length + 1 <= l.length := by
  have h1 : (kk :: ks).Nodup := List.nodup_cons.2 ⟨hnn, hn⟩
  have h2 : ∀ x, x ∈ kk :: ks -> kJ l x ≠ none := fun x hx => by
    rcases List.mem_cons.1 hx with e | e
    · rw [e, hy]; simp
    · exact hk x e
  refine ⟨h1, h2, ?_⟩
  have := tL h1 (m := l) fun x hx => by
    cases e : l.contains x
    · exact absurd (FR e) (h2 x hx)
    · exact List.contains_iff_mem.1 e
  simpa using this
theorem aed {l ks : List Int} (hl : l.Nodup) (hll : l.length <= 100000) (hn : ks.Nodup) (hk : ∀ x, x ∈ ks -> kJ l x ≠ none) (ha : ∀ x, (kJ l x).isSome = true -> x ∈ ks) (i : Nat) {H : List (Option (List CV))} (hH : hget H i = some (dU ks.reverse)) : gW Tryz.prog 121 [.one (.slc i 0 ks.length 1)] H (.tup []) (hset H i (dU (Lc l))) := by
  have h0 := Nf hl hn hk ha
  have h1 := U5 ks.reverse (by rw [List.length_reverse]; omega) i H hH
  rw [List.length_reverse, h0.1] at h1
  exact h1
theorem aiZ (f : aj) (hf : f.Ok) (ch : Int) (h0 : iR f ch ≠ 0) : aA Tryz.prog 29 [iw f, .one (.g (.int .i64 ch))] (.tup [.one (.g (.int .i64 (stU f ch))), .one (.lst 1 (Dn f ch).length (bC (zL (Dn f ch)))), .one (.g (.int .i64 (iR f ch)))]) := by
  refine ak Tryz.func29 rfl (by rw [Tryz.ntmps29]; simp) ?_
  simp only [Tryz.ntmps29, zM, PT.tv, au, Nat.zero_add, Nat.reduceAdd]
  repeat' (first
 | ((with_reducible show AW _ _ _ _); first
 | (with_reducible first | refine aS (fun K hK => ?_) | refine aT ?_ | refine aC ?_)
 | (first
 | (with_reducible first | refine aP 0 [0,1,66] ?_ | refine aP 1 [2,3,66] ?_ | refine aP 2 [2,3,7,8,66] ?_ | refine aP 3 [8] ?_)))
 | ((first | (with_reducible refine And.intro ?_ ?_) | (with_reducible refine Need.mk ?_)); focus (exact True.intro))
 | (with_reducible refine aJ ?_)
 | ((with_reducible show bL _ _ _ _ _ _); first
 | ((with_reducible refine aM ?_ ?_) <;> (intro hc; (try simp only [zB, zC, reduceCtorEq] at hc); (try (exfalso; contradiction)))))
 | ((with_reducible show aW _ _ _ _ _ _ _ _ _ _); first
 | (refine aF (k := 45) jW (oF f hf ch) ?_ ?_))
 | ((fail_if_success (with_reducible show AW _ _ _ _)); simp (maxSteps := 2000000) only [go_sem, reduceIte, reduceCtorEq, xA, xL, xD, xE, xM, xS, xB, Tryz.f29, bT, bX, bQ, bW, bP, bS, bY, bR, bU, bV, bg, bB, bn, bC, h0])
 | ((with_reducible refine hK _ ?_); clear hK K))
  all_goals (have e := alM h0; rw [e.1, e.2]; (repeat' (first | exact rfl | (with_reducible refine And.intro ?_ ?_))))
theorem aiy (f : aj) (hf : f.Ok) (ch : Int) (h0 : iR f ch = 0) : aA Tryz.prog 29 [iw f, .one (.g (.int .i64 ch))] (.tup [.one (.g (.int .i64 (stU f ch))), .one (.lst 1 (Dn f ch).length (bC (zL (Dn f ch)))), .one (.g (.int .i64 (iR f ch)))]) := by
  have hn := hf.n
  have hk := hf.k
  have ha := pq h0
  have ha1 := ha.1
  have ha2 := ha.2.1
  have hn2 := (lW (iE ha.2.2.2).2.2).1
  have hnt := (iE ha.2.2.2).2.2
  have hnb := fun i hi => ((lW hnt).2 i hi).1
  have hso := hf.s _ ha2
  have hup := aiR h0
  have hch := ha.2.2.1
  have hqq : (f.S (jc f ch)).q <= 200 := GI ((iE ha.2.2.2).2.1 _ ha2).1
  have hrl := fun i hi => Ny (s := f.S (jc f ch)) hnb i hi
  have mk1 : True := trivial
  have hps : True := trivial
  have hlk : True := trivial
  have mk2 : True := trivial
  have hrn : (Ag (f.S (jc f ch)) f.n f.N f.n).length <= 20000 := by have := hrl f.n (Nat.le_refl _); omega
  refine ak Tryz.func29 rfl (by rw [Tryz.ntmps29]; simp) ?_
  simp only [Tryz.ntmps29, zM, PT.tv, au, Nat.zero_add, Nat.reduceAdd]
  repeat' (first
 | ((refine oW ?_ ?_) <;> (intro hc; (try rw [hc]); (try simp only [zB, zC, reduceCtorEq] at hc); ((try (clear mk1; have hwt : tX (f.S (jc f ch)) (f.N i) = true := Vw (by assumption); have hpb : iU (f.N i) ch = true := hch ▸ JY hwt; have hpj := of_decide_eq_true hpb; have hps : iY (f.N i) ch = ((f.N i).p (iV (f.N i) ch)) := FV hpb; have hpq : ((f.N i).p (iV (f.N i) ch)).q <= 100 := TJ hpb (hnb i (by omega)); have hPo := (hf.nn i (by omega)).p _ hpj)); (try (have e0 : ((f.N i).p (iV (f.N i) ch)).q = k := (by omega); subst e0)); (try (have e0 : f.n = i := (by omega); subst e0)); (try (have e0 : (f.S (jc f ch)).q = j := (by omega); subst e0))); (try (exfalso; contradiction))))
 | (clear mk2; have hkm := Y8 (nJ _ _ _ _) hnd hks hyy hnn)
 | ((with_reducible show AW _ _ _ _); first
 | (with_reducible first | refine aS (fun K hK => ?_) | refine aI ?_ | refine aX ?_ | refine aT ?_ | refine aC ?_ | refine aB ?_)
 | ((refine eu (k := 91) rfl Tryz.func91 rfl zK (by rw [Tryz.ntmps91]; simp) ?_ ?_ (fun l hlne A B hA hB => ?_)); (focus (simp (maxSteps := 2000000) only [go_sem, reduceIte, reduceCtorEq, xA, xL, xD, xE, xM, xS, xB, Tryz.f29, Tryz.f91, Tryz.f122, Tryz.f46, Tryz.f73, Tryz.f72, Tryz.f120, Tryz.f157, bT, bX, bQ, bW, bP, bS, bY, bR, bU, bV, bg, bB, bn, bC, h0, ha1, hps, hlk, hup, jB, jD, jE, jA, eF, aZ, List.length_reverse, bF, cZ, maxLen]; try exact True.intro)); (focus (simp (maxSteps := 2000000) only [go_sem, reduceIte, reduceCtorEq, xA, xL, xD, xE, xM, xS, xB, Tryz.f29, Tryz.f91, Tryz.f122, Tryz.f46, Tryz.f73, Tryz.f72, Tryz.f120, Tryz.f157, bT, bX, bQ, bW, bP, bS, bY, bR, bU, bV, bg, bB, bn, bC, h0, ha1, hps, hlk, hup, jB, jD, jE, jA, eF, aZ, List.length_reverse, bF, cZ, maxLen]; try exact True.intro)); simp only [Tryz.ntmps91, List.map_cons, List.map_nil, LV.tv, au, yV, Nat.zero_add, Nat.reduceAdd]; clear hlne)
 | ((refine eu (k := 122) rfl Tryz.func122 rfl Ye (by rw [Tryz.ntmps122]; simp) ?_ ?_ (fun l hlne A B hA hB => ?_)); (focus (simp (maxSteps := 2000000) only [go_sem, reduceIte, reduceCtorEq, xA, xL, xD, xE, xM, xS, xB, Tryz.f29, Tryz.f91, Tryz.f122, Tryz.f46, Tryz.f73, Tryz.f72, Tryz.f120, Tryz.f157, bT, bX, bQ, bW, bP, bS, bY, bR, bU, bV, bg, bB, bn, bC, h0, ha1, hps, hlk, hup, jB, jD, jE, jA, eF, aZ, List.length_reverse, bF, cZ, maxLen]; try exact True.intro)); (focus (simp (maxSteps := 2000000) only [go_sem, reduceIte, reduceCtorEq, xA, xL, xD, xE, xM, xS, xB, Tryz.f29, Tryz.f91, Tryz.f122, Tryz.f46, Tryz.f73, Tryz.f72, Tryz.f120, Tryz.f157, bT, bX, bQ, bW, bP, bS, bY, bR, bU, bV, bg, bB, bn, bC, h0, ha1, hps, hlk, hup, jB, jD, jE, jA, eF, aZ, List.length_reverse, bF, cZ, maxLen]; try exact True.intro)); simp only [Tryz.ntmps122, List.map_cons, List.map_nil, LV.tv, au, yV, Nat.zero_add, Nat.reduceAdd]; clear hlne)
 | (with_reducible refine tZ (by assumption) ?_)
 | (first
 | (with_reducible first | refine aP 0 [0,1,2,7,66] ?_ | refine aP (ops := #[⟨some 23, _, _, _, _, _⟩, _, _, _, _, _, _, _]) 1 [2,3,66] ?_ | refine aP (ops := #[⟨some 9, _, _, _, _, _⟩]) 1 [0,2,6,7,8] ?_ | refine aP (ops := #[⟨some 6, _, _, _, _, _⟩, _]) 1 [0,5] ?_ | refine aP (ops := #[⟨some 5, _, _, _, _, _⟩, _]) 1 [2,3] ?_ | refine aP (ops := #[⟨some 3, _, _, _, _, _⟩, _]) 1 [1] ?_ | refine aP (ops := #[⟨some 4, _, _, _, _, _⟩, _, _]) 1 [0] ?_ | refine aP (ops := #[⟨some 3, _, _, _, _, _⟩, _, _]) 1 [0] ?_ | refine aP (ops := #[⟨some 6, _, _, _, _, _⟩]) 1 [1,2,7] ?_ | refine aP (ops := #[⟨some 28, _, _, _, _, _⟩, _]) 2 [2,3,7,8,66] ?_ | refine aP (ops := #[⟨some 10, _, _, _, _, _⟩, _, _, _]) 2 [0,2,6,7,8] ?_ | refine aP (ops := #[⟨some 8, _, _, _, _, _⟩, _, _]) 2 [0,5] ?_ | refine aP (ops := #[⟨some 6, _, _, _, _, _⟩, _]) 2 [3] ?_ | refine aP (ops := #[⟨some 5, _, _, _, _, _⟩]) 2 [2,7] ?_ | refine aP (ops := #[⟨some 12, _, _, _, _, _⟩, _, _, _, _, _, _, _, _, _, _, _, _, _, _, _, _, _]) 3 [0,2,5,6,7,8] ?_ | refine aP (ops := #[⟨some 10, _, _, _, _, _⟩, _, _, _]) 3 [0,3,5] ?_ | refine aP (ops := #[⟨some 8, _, _, _, _, _⟩, _]) 3 [3] ?_ | refine aP (ops := #[⟨some 8, _, _, _, _, _⟩, _, _, _, _]) 3 [2,5,7] ?_ | refine aP (ops := #[⟨some 31, _, _, _, _, _⟩, _, _, _, _, _, _]) 4 [2,3,7,66] ?_ | refine aP (ops := #[⟨some 30, _, _, _, _, _⟩, _]) 4 [0,2,6,7,8] ?_ | refine aP (ops := #[⟨some 12, _, _, _, _, _⟩, _]) 4 [2] ?_ | refine aP 5 [2,3,9,66] ?_ | refine aP 6 [2,3,9,10,66] ?_ | refine aP 7 [2,3,9,10,38,39,40,66] ?_ | refine aP 8 [2,3,9,10,38,39,40,66] ?_ | refine aP 9 [2,3,9,10,12,38,39,40,66] ?_ | refine aP 10 [2,3,9,10,12,38,39,40,66] ?_ | refine aP 11 [2,3,9,10,38,39,40,66] ?_ | refine aP 12 [2,3,9,10,66] ?_ | refine aP 13 [2,3,9,10,52,53,54,66] ?_ | refine aP 14 [2,3,9,10,52,53,54,66] ?_ | refine aP 15 [2,3,9,10,14,52,53,54,66] ?_ | refine aP 16 [2,3,9,10,52,53,54,66] ?_ | refine aP 17 [2,3,9,10,66] ?_ | refine aP 18 [2,3,9,10,15,66] ?_ | refine aP 19 [2,3,9,10,15,66] ?_ | refine aP 20 [2,3,9,10,15,16,66] ?_ | refine aP 21 [2,3,9,10,15,17,66] ?_ | refine aP 22 [2,3,9,10,15,66,74,75,76] ?_ | refine aP 23 [2,3,9,10,15,66,74,75,76] ?_ | refine aP 24 [2,3,9,10,15,20,66,74,75,76] ?_ | refine aP 25 [2,3,9,10,15,20,66,74,75,76] ?_ | refine aP 26 [2,3,9,10,15,66,74,75,76] ?_ | refine aP 27 [2,9,15] ?_ | refine aP 28 [8,15,21] ?_))
 | ((with_reducible show AW _ (Code.loop _) _ _); first
 | ((with_reducible refine aL (c := (Code.seq (Code.region 7 _ _) _)) (ι := Nat) [2,3,9,10,38,39,66] (fun i => [(40, iA .i64 (i : Int))]) (fun i => [(3, [.mi none (Mg f.N ch i).length (kJ (Mg f.N ch i))])]) (fun i => i <= f.n) (fun i => f.n - i) 0 ?lg7 ?l17 ?l27 ?li7 ?lr7); (case' lg7 => rintro i _); (case' li7 => try (omega)); (case' lr7 => rintro i hi KR hR7; simp only [bD, dD, hset, lk, if_true, if_false, xE, reduceIte, zN, bT, bX, bQ, bW, bP, bS, bY, bR, bU, bV, bg, bB, bn, h0, ha1, hps, hlk, hup, jB, jD, jE, jA, eF, aZ, List.length_reverse, bF, cZ, maxLen]))
 | ((with_reducible refine aL (c := (Code.seq (Code.region 13 _ _) _)) (ι := Nat) [2,3,9,10,52,53,66] (fun j => [(54, iA .i64 (j : Int))]) (fun j => [(3, [.mi none (YR (Mg f.N ch f.n) (f.S (jc f ch)).dn j).length (kJ (YR (Mg f.N ch f.n) (f.S (jc f ch)).dn j))])]) (fun j => j <= (f.S (jc f ch)).q) (fun j => (f.S (jc f ch)).q - j) 0 ?lg13 ?l113 ?l213 ?li13 ?lr13); (case' lg13 => rintro j _); (case' li13 => try (omega)); (case' lr13 => rintro j hj KR hR13; simp only [bD, dD, hset, lk, if_true, if_false, xE, reduceIte, zN, bT, bX, bQ, bW, bP, bS, bY, bR, bU, bV, bg, bB, bn, h0, ha1, hps, hlk, hup, jB, jD, jE, jA, eF, aZ, List.length_reverse, bF, cZ, maxLen]))
 | ((with_reducible refine aL (c := (Code.seq (Code.region 22 _ _) _)) (ι := Nat) [2,3,9,10,15,66,74,75] (fun k => [(76, iA .i64 (k : Int))]) (fun k => [(5, [.mi none (MP (f.S (jc f ch)) f.n f.N ((f.N i).p (iV (f.N i) ch)).a (Ag (f.S (jc f ch)) f.n f.N i) k).length (kJ (MP (f.S (jc f ch)) f.n f.N ((f.N i).p (iV (f.N i) ch)).a (Ag (f.S (jc f ch)) f.n f.N i) k))])]) (fun k => k <= ((f.N i).p (iV (f.N i) ch)).q) (fun k => ((f.N i).p (iV (f.N i) ch)).q - k) 0 ?lg22 ?l122 ?l222 ?li22 ?lr22); (case' lg22 => rintro k _); (case' li22 => try (omega)); (case' lr22 => rintro k hk KR hR22; cases hth : (YR (Mg f.N ch f.n) (f.S (jc f ch)).dn (f.S (jc f ch)).q).contains (((f.N i).p (iV (f.N i) ch)).a k); all_goals first | (have hlk := FR hth) | (have hlk := F8 hth); simp only [bD, dD, hset, lk, if_true, if_false, xE, reduceIte, zN, bT, bX, bQ, bW, bP, bS, bY, bR, bU, bV, bg, bB, bn, h0, ha1, hps, hlk, hup, jB, jD, jE, jA, eF, aZ, List.length_reverse, bF, cZ, maxLen]))))
 | ((first | (with_reducible refine And.intro ?_ ?_) | (with_reducible refine Need.mk ?_)); focus (first | exact True.intro | omega | (intro _; (with_reducible assumption))))
 | (with_reducible refine aJ ?_)
 | ((with_reducible show bL _ _ _ _ _ _); first
 | ((with_reducible refine aM ?_ ?_) <;> (intro hc; (try simp only [zB, zC, reduceCtorEq] at hc); ((try (clear mk1; have hwt : tX (f.S (jc f ch)) (f.N i) = true := Vw (by assumption); have hpb : iU (f.N i) ch = true := hch ▸ JY hwt; have hpj := of_decide_eq_true hpb; have hps : iY (f.N i) ch = ((f.N i).p (iV (f.N i) ch)) := FV hpb; have hpq : ((f.N i).p (iV (f.N i) ch)).q <= 100 := TJ hpb (hnb i (by omega)); have hPo := (hf.nn i (by omega)).p _ hpj)); (try (have e0 : ((f.N i).p (iV (f.N i) ch)).q = k := (by omega); subst e0)); (try (have e0 : f.n = i := (by omega); subst e0)); (try (have e0 : (f.S (jc f ch)).q = j := (by omega); subst e0))); (try (exfalso; contradiction)))))
 | ((with_reducible show aW _ _ _ _ _ _ _ _ _ _); first
 | (refine aF (k := 45) jW (oF f hf ch) ?_ ?_)
 | (refine aF (k := 70) qC (BJ (f.N i) ch (hf.nn i (by omega))) ?_ ?_)
 | (refine aF (k := 70) qC (BJ (f.N i) (f.S (jc f ch)).ch (hf.nn i (by omega))) ?_ ?_)
 | (refine aF (k := 60) zx (E5 (f.N i) ch (hf.nn i (by omega))) ?_ ?_)
 | (refine aF (k := 71) Mx (amm (f.S (jc f ch)) f.n f.N hso hf.n hf.nn) ?_ ?_)
 | (refine nP (k := 121) Ae (aed (nJ _ _ _ _) (by have := hrl f.n (Nat.le_refl _); omega) hnd hks hall 12 rfl) ?_ ?_)
 | ((refine dw (k := 46) Tryz.func46 rfl tY (by rw [Tryz.ntmps46]; simp) ?_ ?_ (fun K hK => ?_)); (focus (exact True.intro)); (focus ((simp [jo]; done))); simp only [Tryz.ntmps46, List.map_cons, List.map_nil, List.nil_append, List.cons_append, List.append_nil, LV.tv, au, Nat.zero_add, Nat.reduceAdd])
 | ((refine dw (k := 73) Tryz.func73 rfl NP (by rw [Tryz.ntmps73]; simp) ?_ ?_ (fun K hK => ?_)); (focus (exact True.intro)); (focus ((simp [jo]; done))); simp only [Tryz.ntmps73, List.map_cons, List.map_nil, List.nil_append, List.cons_append, List.append_nil, LV.tv, au, Nat.zero_add, Nat.reduceAdd])
 | ((refine dw (k := 72) Tryz.func72 rfl EN (by rw [Tryz.ntmps72]; simp) ?_ ?_ (fun K hK => ?_)); (focus (exact True.intro)); (focus ((simp [jo]; done))); simp only [Tryz.ntmps72, List.map_cons, List.map_nil, List.nil_append, List.cons_append, List.append_nil, LV.tv, au, Nat.zero_add, Nat.reduceAdd])
 | ((refine dw (k := 120) Tryz.func120 rfl Bj (by rw [Tryz.ntmps120]; simp) ?_ ?_ (fun K hK => ?_)); (focus (exact True.intro)); (focus ((simp [jo]; done))); simp only [Tryz.ntmps120, List.map_cons, List.map_nil, List.nil_append, List.cons_append, List.append_nil, LV.tv, au, Nat.zero_add, Nat.reduceAdd])
 | ((refine dw (k := 157) Tryz.func157 rfl BH (by rw [Tryz.ntmps157]; simp) ?_ ?_ (fun K hK => ?_)); (focus (exact True.intro)); (focus ((simp [jo]; done))); simp only [Tryz.ntmps157, List.map_cons, List.map_nil, List.nil_append, List.cons_append, List.append_nil, LV.tv, au, Nat.zero_add, Nat.reduceAdd]))
 | ((with_reducible show bM _ _ _ _ _ _ _ _ _ _); first
 | (refine aO (k := 92) uX (fun hg => Gg (f.S (jc f ch)).q (f.S (jc f ch)).dn (f.N i).nu hso.q) ?_ ?_))
 | ((with_reducible refine hR7 _ (i + 1) ?_); (try clear hR7 KR))
 | ((with_reducible refine hR13 _ (j + 1) ?_); (try clear hR13 KR))
 | (((with_reducible show AW _ (Code.loop (Code.seq (Code.region 1 #[⟨some 9, _, _, _, _, _⟩] _) _)) _ _); with_reducible refine aL (c := (Code.seq (Code.region 1 _ _) _)) (ι := Nat) [0,2,6,7] (fun i => [(8, iA .i64 (i : Int))]) (fun i => [(5, [.mi none (Ag (f.S (jc f ch)) f.n f.N i).length (kJ (Ag (f.S (jc f ch)) f.n f.N i))])]) (fun i => i <= f.n) (fun i => f.n - i) 0 ?lg1 ?l11 ?l21 ?li1 ?lr1); (case' lg1 => rintro i _); (case' li1 => try (omega)); (case' lr1 => rintro i hi KR hR1; simp only [bD, dD, hset, lk, if_true, if_false, xE, reduceIte, zN, bT, bX, bQ, bW, bP, bS, bY, bR, bU, bV, bg, bB, bn, h0, ha1, hps, hlk, hup, jB, jD, jE, jA, eF, aZ, List.length_reverse, bF, cZ, maxLen]))
 | ((with_reducible refine hR1 _ (i + 1) ?_); (try clear hR1 KR))
 | ((with_reducible refine hR22 _ (k + 1) ?_); (try clear hR22 KR))
 | (((with_reducible show AW _ (Code.loop (Code.seq (Code.region 1 #[⟨some 6, _, _, _, _, _⟩, _] _) _)) _ _); (with_reducible refine adw ?_); simp only [ddG, ddE, List.contains_cons, List.contains_nil, Nat.reduceBEq, Bool.or_false, Bool.false_or, Bool.or_true, Bool.true_or, if_true, if_false, Bool.false_eq_true, reduceIte]; with_reducible refine aL (c := (Code.seq (Code.region 1 _ _) _)) (ι := List Int) [0,5] (fun ks => []) (fun ks => [(10, [.slc 12 0 ks.length 1]), (12, dU ks.reverse), (11, [.mt 5 cc (fun q => q ∈ ks) ks.head?])]) (fun ks => ks.Nodup /\ ∀ x, x ∈ ks -> kJ (Ag (f.S (jc f ch)) f.n f.N f.n) x ≠ none) (fun ks => (Ag (f.S (jc f ch)) f.n f.N f.n).length - ks.length) [] ?lg1k ?l11k ?l21k ?li1k ?lr1k); (case' lg1k => rintro ks _); (case' li1k => try (exact ⟨List.nodup_nil, fun x h => absurd h (List.not_mem_nil)⟩)); (case' lr1k => rintro ks ⟨hnd, hks⟩ KR hR1k; simp only [bD, dD, hset, lk, if_true, if_false, xE, reduceIte, zN, bT, bX, bQ, bW, bP, bS, bY, bR, bU, bV, bg, bB, bn, h0, ha1, hps, hlk, hup, jB, jD, jE, jA, eF, aZ, List.length_reverse, bF, cZ, maxLen]))
 | ((with_reducible refine hR1k _ (kk :: ks) ?_); (try clear hR1k KR))
 | ((with_reducible refine Told.mk ?_); simp only [go_sem, reduceIte, reduceCtorEq, xA, xL, xD, xE, xM, xS, xB, bT, bX, bQ, bW, bP, bS, bY, bR, bU, bV, bg, bB, bn, bC, h0, ha1, hps, hlk, hup, jB, jD, jE, jA, eF, aZ, List.length_reverse, bF, cZ, maxLen] <;> (first | (((try simp (disch := omega) only [aY, Int.natCast_add, Int.cast_ofNat_Int, and_true, true_and, and_self]); (repeat' (first | omega | rfl | (with_reducible refine And.intro ?_ ?_) | ((rw [adC (by assumption)]; exact Or.inl rfl)) | ((rw [adx (by assumption)]; exact Or.inr ⟨(nD _ _).2, fun k => by rw [(nD _ _).1]; exact ou _⟩)) | ((rw [adH]; exact Or.inr ⟨(nD _ _).2, fun k => by rw [(nD _ _).1]; exact ou _⟩)) | ((rw [Tn (akb (by assumption))]; exact Or.inl rfl)) | ((rw [Va (by assumption), hch]; exact Or.inl rfl)) | ((rw [YJ (by rw [adl hch, hth]; rfl)]; exact Or.inr ⟨(nD _ _).2, fun k => by rw [(nD _ _).1]; exact ou _⟩)) | ((rw [YC (by rw [adl hch, hth]; rfl)]; exact Or.inl rfl)))); done)) | (((try simp (disch := omega) only [aY, Int.natCast_add, Int.cast_ofNat_Int, and_true, true_and, and_self]); (repeat' (first | omega | rfl | (with_reducible refine And.intro ?_ ?_) | ((exact hkm.1)) | ((exact fun e => by rw [hyy] at e; cases e)) | ((exact jQ rfl (ig _))))); done))))
 | ((with_reducible show kr _ _ (Oper.mk _ (Op.range _ _) _ _ _ _) _ _ _); refine yI (by first | exact XJ) (by simp (maxSteps := 2000000) only [go_sem, reduceIte, reduceCtorEq, xA, xL, xD, xE, xM, xS, xB, Tryz.f29, Tryz.f91, Tryz.f122, Tryz.f46, Tryz.f73, Tryz.f72, Tryz.f120, Tryz.f157, bT, bX, bQ, bW, bP, bS, bY, bR, bU, bV, bg, bB, bn, bC, h0, ha1, hps, hlk, hup, jB, jD, jE, jA, eF, aZ, List.length_reverse, bF, cZ, maxLen]; rfl) (by simp (maxSteps := 2000000) only [go_sem, reduceIte, reduceCtorEq, xA, xL, xD, xE, xM, xS, xB, Tryz.f29, Tryz.f91, Tryz.f122, Tryz.f46, Tryz.f73, Tryz.f72, Tryz.f120, Tryz.f157, bT, bX, bQ, bW, bP, bS, bY, bR, bU, bV, bg, bB, bn, bC, h0, ha1, hps, hlk, hup, jB, jD, jE, jA, eF, aZ, List.length_reverse, bF, cZ, maxLen]; rfl) (fun cc => ?_))
 | ((with_reducible show kr _ _ (Oper.mk _ (Op.next _ _) _ _ _ _) _ _ _); refine CU (by simp (maxSteps := 2000000) only [go_sem, reduceIte, reduceCtorEq, xA, xL, xD, xE, xM, xS, xB, Tryz.f29, Tryz.f91, Tryz.f122, Tryz.f46, Tryz.f73, Tryz.f72, Tryz.f120, Tryz.f157, bT, bX, bQ, bW, bP, bS, bY, bR, bU, bV, bg, bB, bn, bC, h0, ha1, hps, hlk, hup, jB, jD, jE, jA, eF, aZ, List.length_reverse, bF, cZ, maxLen]; rfl) (by simp (maxSteps := 2000000) only [go_sem, reduceIte, reduceCtorEq, xA, xL, xD, xE, xM, xS, xB, Tryz.f29, Tryz.f91, Tryz.f122, Tryz.f46, Tryz.f73, Tryz.f72, Tryz.f120, Tryz.f157, bT, bX, bQ, bW, bP, bS, bY, bR, bU, bV, bg, bB, bn, bC, h0, ha1, hps, hlk, hup, jB, jD, jE, jA, eF, aZ, List.length_reverse, bF, cZ, maxLen]; rfl) (by simp (maxSteps := 2000000) only [go_sem, reduceIte, reduceCtorEq, xA, xL, xD, xE, xM, xS, xB, Tryz.f29, Tryz.f91, Tryz.f122, Tryz.f46, Tryz.f73, Tryz.f72, Tryz.f120, Tryz.f157, bT, bX, bQ, bW, bP, bS, bY, bR, bU, bV, bg, bB, bn, bC, h0, ha1, hps, hlk, hup, jB, jD, jE, jA, eF, aZ, List.length_reverse, bF, cZ, maxLen]; rfl) (fun hall => ?_) (fun kk yy hyy hnn => ?_))
 | ((with_reducible show kr _ _ (Oper.mk _ (Op.entry _) _ _ _ _) _ _ _); refine yJ (by simp (maxSteps := 2000000) only [go_sem, reduceIte, reduceCtorEq, xA, xL, xD, xE, xM, xS, xB, Tryz.f29, Tryz.f91, Tryz.f122, Tryz.f46, Tryz.f73, Tryz.f72, Tryz.f120, Tryz.f157, bT, bX, bQ, bW, bP, bS, bY, bR, bU, bV, bg, bB, bn, bC, h0, ha1, hps, hlk, hup, jB, jD, jE, jA, eF, aZ, List.length_reverse, bF, cZ, maxLen]; rfl) (by simp (maxSteps := 2000000) only [go_sem, reduceIte, reduceCtorEq, xA, xL, xD, xE, xM, xS, xB, Tryz.f29, Tryz.f91, Tryz.f122, Tryz.f46, Tryz.f73, Tryz.f72, Tryz.f120, Tryz.f157, bT, bX, bQ, bW, bP, bS, bY, bR, bU, bV, bg, bB, bn, bC, h0, ha1, hps, hlk, hup, jB, jD, jE, jA, eF, aZ, List.length_reverse, bF, cZ, maxLen]; rfl) (by simp (maxSteps := 2000000) only [go_sem, reduceIte, reduceCtorEq, xA, xL, xD, xE, xM, xS, xB, Tryz.f29, Tryz.f91, Tryz.f122, Tryz.f46, Tryz.f73, Tryz.f72, Tryz.f120, Tryz.f157, bT, bX, bQ, bW, bP, bS, bY, bR, bU, bV, bg, bB, bn, bC, h0, ha1, hps, hlk, hup, jB, jD, jE, jA, eF, aZ, List.length_reverse, bF, cZ, maxLen]; rfl) (by ((intros; simp_all; done))) (fun yy hyy => ?_))
 | ((fail_if_success (with_reducible show AW _ _ _ _)); simp (maxSteps := 2000000) only [go_sem, reduceIte, reduceCtorEq, xA, xL, xD, xE, xM, xS, xB, Tryz.f29, Tryz.f91, Tryz.f122, Tryz.f46, Tryz.f73, Tryz.f72, Tryz.f120, Tryz.f157, bT, bX, bQ, bW, bP, bS, bY, bR, bU, bV, bg, bB, bn, bC, h0, ha1, hps, hlk, hup, jB, jD, jE, jA, eF, aZ, List.length_reverse, bF, cZ, maxLen])
 | ((with_reducible show aW _ _ _ _ _ _ (.yld _) _ _ _); (refine kU (by simp only [Eh, if_true]; exact rfl) ?_ (by simp) ?_ ?_ (fun K hK => ?_)); (focus (exact True.intro)); (focus (simp [mE])); (focus ((simp [jo]; done))); simp only [iT, gf, if_true, Nat.reduceAdd])
 | ((with_reducible refine hK _ ?_); clear hK K)
 | (with_reducible apply_assumption -exfalso only [*]))
  all_goals (have e := aeE h0; rw [e.1, e.2]; have h8 := Nf (nJ _ _ _ _) hnd hks hall; have h9 := aaf (Ag (f.S (jc f ch)) f.n f.N f.n); exact ⟨⟨by omega, fun c hc9 => (by have := ig _ c hc9; cases c <;> trivial)⟩, rfl, by unfold msL; omega, fun i o hi ho => FH _ i o (by omega) ho⟩)
theorem adO (f : aj) (hf : f.Ok) (ch : Int) : aA Tryz.prog 29 [iw f, .one (.g (.int .i64 ch))] (.tup [.one (.g (.int .i64 (stU f ch))), .one (.lst 1 (Dn f ch).length (bC (zL (Dn f ch)))), .one (.g (.int .i64 (iR f ch)))]) := by
  by_cases h0 : iR f ch = 0
  · exact aiy f hf ch h0
  · exact aiZ f hf ch h0
end Go.Proofs.YtcfechepbamhkaaGreat
