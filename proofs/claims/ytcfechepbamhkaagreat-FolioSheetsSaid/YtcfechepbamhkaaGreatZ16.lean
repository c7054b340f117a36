/- Part 16 of 17: contracts of functions and plain laws for the root text. No condition. -/
import Derived.Test.YtcfechepbamhkaaGreatZ01
import Derived.Test.YtcfechepbamhkaaGreatZ02
import Derived.Test.YtcfechepbamhkaaGreatZ03
import Derived.Test.YtcfechepbamhkaaGreatZ04
import Derived.Test.YtcfechepbamhkaaGreatZ05
import Derived.Test.YtcfechepbamhkaaGreatZ06
import Derived.Test.YtcfechepbamhkaaGreatZ07
import Derived.Test.YtcfechepbamhkaaGreatZ08
import Derived.Test.YtcfechepbamhkaaGreatZ09
import Derived.Test.YtcfechepbamhkaaGreatZ10
import Derived.Test.YtcfechepbamhkaaGreatZ11
import Derived.Test.YtcfechepbamhkaaGreatZ12
import Derived.Test.YtcfechepbamhkaaGreatZ13
import Derived.Test.YtcfechepbamhkaaGreatZ14
import Derived.Test.YtcfechepbamhkaaGreatZ15
import Derived.Shelf.SlGeneric
import Derived.Ground.SlgfProg
import Derived.Shelf.SlicesE.DeleteFunc
import Derived.Test.YtcfechepbamhkaaGreatProg
set_option linter.unusedVariables false
set_option linter.unusedSimpArgs false
set_option maxRecDepth 100000
set_option maxHeartbeats 4000000
namespace Go.Proofs.YtcfechepbamhkaaGreat
open Go.RowKit Go.Sea
open Nat renaming reduceAdd -> xA, reduceLT -> xL, reduceLeDiff -> xD, reduceEqDiff -> xE, reduceMul -> xM, reduceSub -> xS, reduceBEq -> xB
theorem zx : aN Tryz.prog 19 = true := by kernel_rfl
theorem Oi : aN Tryz.prog 41 = true := by kernel_rfl
theorem acD : aN Tryz.prog 42 = true := by kernel_rfl
theorem Nv : aN Tryz.prog 43 = true := by kernel_rfl
theorem aea : aN Tryz.prog 85 = true := by kernel_rfl
theorem akx : lQ Tryz.prog 31 = some (false, 1) := by kernel_rfl
theorem amg : fV Tryz.prog 31 = some [.iv (.g (.int .i64 0))] := by kernel_rfl
attribute [go_sem] zx Oi acD Nv akx amg
def Rh (f : aj) (M : ah) (v : Nat) : Nat := max v (iy f M)
theorem DI (f : aj) (M : ah) : Rh f M f.n = f.n := by have := ku f M; unfold Rh; omega
theorem BD (f : aj) (M : ah) : Rh f M 0 = iy f M := by unfold Rh; omega
theorem ahm {f : aj} {M : ah} {v : Nat} (h : iy f M <= v - 1) : Rh f M (v - 1) = v - 1 := by unfold Rh; omega
theorem aiT {f : aj} {M : ah} {v : Nat} (h : v - 1 < iy f M) (hv : 1 <= v) : Rh f M v = iy f M /\ Rh f M (v - 1) = iy f M := by unfold Rh; omega
theorem aik {f : aj} {M : ah} {v : Nat} (hv : fK f = true) (h1 : 0 <= (v : Int) - 1) (hn : v <= f.n) (h : M.nu < (f.N (v - 1)).nu) : (v : Int) - 1 = (Rh f M (v - 1) : Int) := by
  have := mt (Ee (M := M) hv (i := v - 1) (by omega)).2 (by omega)
  rw [ahm (by omega)]; omega
theorem agF {f : aj} {M : ah} {v : Nat} (hv : fK f = true) (h1 : 0 <= (v : Int) - 1) (hn : v <= f.n) (h : (f.N (v - 1)).nu <= M.nu) (h2 : (f.N (v - 1)).nu ≠ M.nu) : (Rh f M v : Int) = (Rh f M (v - 1) : Int) := by
  have := (Ee (M := M) hv (i := v - 1) (by omega)).1 (by omega)
  have := aiT (f := f) (M := M) (v := v) (by omega) (by omega)
  rw [this.1, this.2]
theorem adu {N : Nat -> ah} {n v : Nat} {x : Int} (h : ∀ j, v <= j -> j < n -> (N j).nu ≠ x) (h1 : (N (v - 1)).nu ≠ x) : ∀ j, v - 1 <= j -> j < n -> (N j).nu ≠ x := fun j h2 h3 => by
  by_cases hj : j = v - 1
  · rw [hj]; exact h1
  · exact h j (by omega) h3
theorem Ej : ∀ (l : List ah) (k : Nat), (iE l).take (k * 7) = iE (l.take k)
  | [], k => by simp [iE]
  | s :: l, 0 => by simp [iE]
  | s :: l, k + 1 => by
    show (c7 s ++ iE l).take ((k + 1) * 7) = c7 s ++ iE (l.take k)
    rw [List.take_append, List.take_of_length_le (by show 7 <= _; omega), <- Ej l k]
    congr 1; show (iE l).take ((k + 1) * 7 - 7) = _; rw [Nat.add_mul]; rfl
theorem EA : ∀ (l : List ah) (k : Nat), (iE l).drop (k * 7) = iE (l.drop k)
  | [], k => by simp [iE]
  | s :: l, 0 => by simp [iE]
  | s :: l, k + 1 => by
    show (c7 s ++ iE l).drop ((k + 1) * 7) = iE (l.drop k)
    rw [List.drop_append, List.drop_eq_nil_of_le (by show 7 <= _; omega), <- EA l k, List.nil_append]
    show (iE l).drop ((k + 1) * 7 - 7) = _; rw [Nat.add_mul]; rfl
theorem ahx (f : aj) (M : ah) : (Go.Sea.eG (eP f.N) 7 f.n 0).take (iy f M * 7) ++ [.iv (.g (.int .i64 M.oc)), .iv (.g (.int .i64 M.nu)), .iv (.g (.int .i64 M.kd)), .iv (.g (.int .i64 M.fr)), .iv (.g (.int .i64 M.un)), .iv (.g (.int .i64 M.ca)), .iv (.lst 3 M.n (dK M.p))] ++ (Go.Sea.eG (eP f.N) 7 f.n 0).drop (iy f M * 7) = iE (KE f M) := by
  have hJ := ku f M
  rw [ae6, Ej, EA, aky]
  have e1 : ((List.range f.n).map f.N).take (iy f M) = nL f (iy f M) := by
    unfold nL
    rw [<- List.map_take, List.take_range, Nat.min_eq_left hJ]
  have e2 : ((List.range f.n).map f.N).drop (iy f M) = (List.range (f.n - iy f M)).map (fun i => f.N (iy f M + i)) := by
    refine List.ext_getElem (by simp) fun i h1 h2 => by simp
  rw [e1, e2]
  unfold iE; simp only [List.flatMap_append, List.flatMap_cons, List.flatMap_nil, List.append_nil, List.append_assoc]; rfl
theorem rec_1 (f : aj) (hf : f.Ok) (M : ah) (ho : M.Ok) (h : fK f = false \/ gD M = false) : aA Tryz.prog 12 [jJ f, .agg [.g (.int .i64 M.oc), .g (.int .i64 M.nu), .g (.int .i64 M.kd), .g (.int .i64 M.fr), .g (.int .i64 M.un), .g (.int .i64 M.ca), .lst 3 M.n (dK M.p)]] (.tup [jJ (dZ f M), .one (.g (.int .i64 (iK f M)))]) := by
  refine ak Tryz.func12 rfl (by rw [Tryz.ntmps12]; simp) ?_
  simp only [Tryz.ntmps12, zM, PT.tv, au, Nat.zero_add, Nat.reduceAdd]
  repeat' (first
 | ((with_reducible show AW _ _ _ _); first
 | (with_reducible first | refine aS (fun K hK => ?_) | refine aI ?_ | refine aT ?_ | refine aC ?_)
 | ((with_reducible first | refine aP 0 [0,1,39,40] ?_ | refine aP 1 [2,3,4,5,39,40] ?_ | refine aP 2 [4,5] ?_)))
 | ((first | (with_reducible refine And.intro ?_ ?_) | (with_reducible refine Need.mk ?_)); focus (first | exact True.intro | (intro _; (with_reducible assumption)) | (simp; done)))
 | (with_reducible refine aJ ?_)
 | ((with_reducible show bL _ _ _ _ _ _); first
 | ((with_reducible refine aM ?_ ?_) <;> (intro hc; (try simp only [zB, zC, reduceCtorEq] at hc); (try (exfalso; contradiction)))))
 | ((with_reducible show aQ _ _ _ _ _ _ _ _ _ _); (refine aF (k := 26) qB (IG f hf) ?_ ?_))
 | ((with_reducible show bG _ _ _ _ _ _ _ _ _ _); (refine aO (k := 18) iP (fun hg => nX M ho) ?_ ?_))
 | ((fail_if_success (with_reducible show AW _ _ _ _)); simp (maxSteps := 2000000) only [go_sem, reduceIte, reduceCtorEq, xA, xL, xD, xE, xM, xS, xB, Tryz.f12, bn, h])
 | ((with_reducible refine hK _ ?_); clear hK K))
  all_goals first | (have e := afs h; rw [sJ (by omega), e]; unfold uT; (repeat' (first | exact rfl | (with_reducible refine And.intro ?_ ?_))); done) | (exfalso; rcases h with h | h <;> simp_all; done) | (have e := Ow ⟨hv, hw⟩ h2 (fun q => hai _ (by omega) (by omega) q.2); rw [if_neg (by omega)] at e; rw [yI e, e]; (repeat' (exact rfl)); done) | skip
theorem rec_2 (f : aj) (hf : f.Ok) (M : ah) (ho : M.Ok) (hv : fK f = true) (hw : gD M = true) (h2 : 0 < f.n /\ (f.N 0).oc ≠ M.oc) : aA Tryz.prog 12 [jJ f, .agg [.g (.int .i64 M.oc), .g (.int .i64 M.nu), .g (.int .i64 M.kd), .g (.int .i64 M.fr), .g (.int .i64 M.un), .g (.int .i64 M.ca), .lst 3 M.n (dK M.p)]] (.tup [jJ (dZ f M), .one (.g (.int .i64 (iK f M)))]) := by
  refine ak Tryz.func12 rfl (by rw [Tryz.ntmps12]; simp) ?_
  simp only [Tryz.ntmps12, zM, PT.tv, au, Nat.zero_add, Nat.reduceAdd]
  repeat' (first
 | ((with_reducible show AW _ _ _ _); first
 | (with_reducible first | refine aS (fun K hK => ?_) | refine aI ?_ | refine aT ?_ | refine aC ?_)
 | (first
 | (with_reducible first | refine aP 0 [0,1,39,40] ?_ | refine aP 1 [2,3,4,5,39,40] ?_)
 | ((with_reducible refine aR (c := Code.region 3 _ true) [2,3,4,5,39,40] ?_); (with_reducible refine aD ?_ ?_ ?_ ?_); (focus kernel_rfl); (focus kernel_rfl); (focus kernel_rfl))
 | (with_reducible refine aP 4 [4,5] ?_)))
 | ((first | (with_reducible refine And.intro ?_ ?_) | (with_reducible refine Need.mk ?_)); focus (first | exact True.intro | (intro _; exact True.intro) | (intros; (repeat' (first | omega | (with_reducible refine And.intro ?_ ?_))); done)))
 | (with_reducible refine aJ ?_)
 | ((with_reducible show bL _ _ _ _ _ _); first
 | ((with_reducible refine aM ?_ ?_) <;> (intro hc; (try simp only [zB, zC, reduceCtorEq] at hc); (try (exfalso; omega)))))
 | ((with_reducible refine And.intro ?_ ?_); focus ((with_reducible show gW _ _ _ = true); kernel_rfl))
 | ((with_reducible show aQ _ _ _ _ _ _ _ _ _ _); (refine aF (k := 26) qB (IG f hf) ?_ ?_))
 | ((with_reducible show bG _ _ _ _ _ _ _ _ _ _); (refine aO (k := 18) iP (fun hg => nX M ho) ?_ ?_))
 | ((fail_if_success (with_reducible show AW _ _ _ _)); simp (maxSteps := 2000000) only [go_sem, reduceIte, reduceCtorEq, xA, xL, xD, xE, xM, xS, xB, Tryz.f12, bn, hv, hw])
 | ((with_reducible refine hK _ ?_); clear hK K))
  all_goals first | (have e := afS ⟨hv, hw⟩ h2; rw [sJ (by omega), e]; unfold uT; (repeat' (first | exact rfl | (with_reducible refine And.intro ?_ ?_))); done) | (exfalso; omega) | (have e := Ow ⟨hv, hw⟩ h2 (fun q => hai _ (by omega) (by omega) q.2); rw [if_neg (by omega)] at e; rw [yI e, e]; (repeat' (exact rfl)); done) | skip
def fG (f : aj) (M : ah) : Option (List CV) := some [.iv (.lst 13 f.k (jq f.S)), .iv (.lst 7 f.n (eP f.N))]
def dM (f : aj) (M : ah) : Option (List CV) := some [.iv (.g (.int .i64 M.oc)), .iv (.g (.int .i64 M.nu)), .iv (.g (.int .i64 M.kd)), .iv (.g (.int .i64 M.fr)), .iv (.g (.int .i64 M.un)), .iv (.g (.int .i64 M.ca)), .iv (.lst 3 M.n (dK M.p))]
def fA (f : aj) (M : ah) : Option (List CV) := some [.iv (.g (.slice none 0 0)), .iv (.g (.slice none 0 0))]
def fq (f : aj) (M : ah) : Option (List CV) := some [.iv (.g (.int .i64 0))]
def fB (f : aj) (M : ah) : Option (List CV) := some [.iv (.g (.int .i64 ((iy f M) : Int)))]
def fu (f : aj) (M : ah) : Option (List CV) := some [.iv (.lst 7 f.n (eP f.N))]
def rG (f : aj) (M : ah) : AV := .t (.one (.iv (.lst 7 f.n (eP f.N))))
def rR (f : aj) (M : ah) : AV := .t (.one (.slc 8 0 f.n 7))
def sK (f : aj) (M : ah) : Option (List CV) := some (Go.Sea.eG (eP f.N) 7 f.n 0)
def kC (f : aj) (M : ah) : AV := .t (.one (.iv (.g (.int .i64 ((iy f M) : Int)))))
def lJ (f : aj) (M : ah) : AV := .t (.agg [.iv (.g (.int .i64 M.oc)), .iv (.g (.int .i64 M.nu)), .iv (.g (.int .i64 M.kd)), .iv (.g (.int .i64 M.fr)), .iv (.g (.int .i64 M.un)), .iv (.g (.int .i64 M.ca)), .iv (.lst 3 M.n (dK M.p))])
def lU (f : aj) (M : ah) : AV := .t (.one (.slc 11 0 1 7))
def gN (m : Nat) : List Nat := if m = 0 then [2,3,4,5,6] else if m = 1 then [2,3,4,5,6,72] else if m = 3 then [2,3,4,5,6,73] else if m = 7 then [2,3,4,5,6,74] else if m = 8 then [2,3,4,5,6,75] else if m = 9 then [2,3,4,5,6,72,75] else if m = 11 then [2,3,4,5,6,73,75] else if m = 15 then [2,3,4,5,6,74,75] else if m = 16 then [2,3,4,5,6,76] else if m = 17 then [2,3,4,5,6,72,76] else if m = 19 then [2,3,4,5,6,73,76] else if m = 23 then [2,3,4,5,6,74,76] else if m = 24 then [2,3,4,5,6,75,76] else if m = 25 then [2,3,4,5,6,72,75,76] else if m = 27 then [2,3,4,5,6,73,75,76] else if m = 31 then [2,3,4,5,6,74,75,76] else if m = 48 then [2,3,4,5,6,77] else if m = 49 then [2,3,4,5,6,72,77] else if m = 51 then [2,3,4,5,6,73,77] else if m = 55 then [2,3,4,5,6,74,77] else if m = 56 then [2,3,4,5,6,75,77] else if m = 57 then [2,3,4,5,6,72,75,77] else if m = 59 then [2,3,4,5,6,73,75,77] else if m = 63 then [2,3,4,5,6,74,75,77] else if m = 127 then [2,3,4,5,6,78] else if m = 255 then [2,3,4,5,6,78,79] else if m = 511 then [2,4,5] else []
theorem aev : gN 0 = [2,3,4,5,6] := rfl
theorem abM : gN 1 = [2,3,4,5,6,72] := rfl
theorem aes : gN 3 = [2,3,4,5,6,73] := rfl
theorem ac5 : gN 7 = [2,3,4,5,6,74] := rfl
theorem aer : gN 8 = [2,3,4,5,6,75] := rfl
theorem aby : gN 9 = [2,3,4,5,6,72,75] := rfl
theorem TL : gN 11 = [2,3,4,5,6,73,75] := rfl
theorem Ux : gN 15 = [2,3,4,5,6,74,75] := rfl
theorem WW : gN 16 = [2,3,4,5,6,76] := rfl
theorem WK : gN 17 = [2,3,4,5,6,72,76] := rfl
theorem Xw : gN 19 = [2,3,4,5,6,73,76] := rfl
theorem Zl : gN 23 = [2,3,4,5,6,74,76] := rfl
theorem TQ : gN 24 = [2,3,4,5,6,75,76] := rfl
theorem Un : gN 25 = [2,3,4,5,6,72,75,76] := rfl
theorem TB : gN 27 = [2,3,4,5,6,73,75,76] := rfl
theorem aar : gN 31 = [2,3,4,5,6,74,75,76] := rfl
theorem WR : gN 48 = [2,3,4,5,6,77] := rfl
theorem YL : gN 49 = [2,3,4,5,6,72,77] := rfl
theorem Y7 : gN 51 = [2,3,4,5,6,73,77] := rfl
theorem Wh : gN 55 = [2,3,4,5,6,74,77] := rfl
theorem VE : gN 56 = [2,3,4,5,6,75,77] := rfl
theorem Xq : gN 57 = [2,3,4,5,6,72,75,77] := rfl
theorem VK : gN 59 = [2,3,4,5,6,73,75,77] := rfl
theorem Zz : gN 63 = [2,3,4,5,6,74,75,77] := rfl
theorem Qw : gN 127 = [2,3,4,5,6,78] := rfl
theorem PY : gN 255 = [2,3,4,5,6,78,79] := rfl
theorem Qn : gN 511 = [2,4,5] := rfl
def ze (f : aj) (M : ah) : AS := ⟨[(2, .t (.one (.ptr 0 0))), (3, .t (.one (.ptr 1 0))), (4, .t (.one (.ptr 2 0))), (5, .t (.one (.ptr 3 0))), (6, .t (.one (.ptr 4 0)))], [(fG f M), (dM f M), (fA f M), (fq f M), (fB f M), (fu f M)], 82, [], LP.top⟩
def EU (f : aj) (M : ah) : AS := ⟨[(2, .t (.one (.ptr 0 0))), (3, .t (.one (.ptr 1 0))), (4, .t (.one (.ptr 2 0))), (5, .t (.one (.ptr 3 0))), (6, .t (.one (.ptr 4 0))), (72, .t (.one (.ptr 0 1)))], [(fG f M), (dM f M), (fA f M), (fq f M), (fB f M), (fu f M)], 82, [], LP.top⟩
def GI (f : aj) (M : ah) : AS := ⟨[(2, .t (.one (.ptr 0 0))), (3, .t (.one (.ptr 1 0))), (4, .t (.one (.ptr 2 0))), (5, .t (.one (.ptr 3 0))), (6, .t (.one (.ptr 4 0))), (73, (rG f M))], [(fG f M), (dM f M), (fA f M), (fq f M), (fB f M), (fu f M)], 82, [], LP.top⟩
def Gx (f : aj) (M : ah) : AS := ⟨[(2, .t (.one (.ptr 0 0))), (3, .t (.one (.ptr 1 0))), (4, .t (.one (.ptr 2 0))), (5, .t (.one (.ptr 3 0))), (6, .t (.one (.ptr 4 0))), (74, (rR f M))], [(fG f M), (dM f M), (fA f M), (fq f M), (fB f M), (fu f M), none, none, (sK f M)], 82, [], LP.top⟩
def Gb (f : aj) (M : ah) : AS := ⟨[(2, .t (.one (.ptr 0 0))), (3, .t (.one (.ptr 1 0))), (4, .t (.one (.ptr 2 0))), (5, .t (.one (.ptr 3 0))), (6, .t (.one (.ptr 4 0))), (75, (kC f M))], [(fG f M), (dM f M), (fA f M), (fq f M), (fB f M), (fu f M)], 82, [], LP.top⟩
def Gl (f : aj) (M : ah) : AS := ⟨[(2, .t (.one (.ptr 0 0))), (3, .t (.one (.ptr 1 0))), (4, .t (.one (.ptr 2 0))), (5, .t (.one (.ptr 3 0))), (6, .t (.one (.ptr 4 0))), (72, .t (.one (.ptr 0 1))), (75, (kC f M))], [(fG f M), (dM f M), (fA f M), (fq f M), (fB f M), (fu f M)], 82, [], LP.top⟩
def Am (f : aj) (M : ah) : AS := ⟨[(2, .t (.one (.ptr 0 0))), (3, .t (.one (.ptr 1 0))), (4, .t (.one (.ptr 2 0))), (5, .t (.one (.ptr 3 0))), (6, .t (.one (.ptr 4 0))), (73, (rG f M)), (75, (kC f M))], [(fG f M), (dM f M), (fA f M), (fq f M), (fB f M), (fu f M)], 82, [], LP.top⟩
def Af (f : aj) (M : ah) : AS := ⟨[(2, .t (.one (.ptr 0 0))), (3, .t (.one (.ptr 1 0))), (4, .t (.one (.ptr 2 0))), (5, .t (.one (.ptr 3 0))), (6, .t (.one (.ptr 4 0))), (74, (rR f M)), (75, (kC f M))], [(fG f M), (dM f M), (fA f M), (fq f M), (fB f M), (fu f M), none, none, (sK f M)], 82, [], LP.top⟩
def Ce (f : aj) (M : ah) : AS := ⟨[(2, .t (.one (.ptr 0 0))), (3, .t (.one (.ptr 1 0))), (4, .t (.one (.ptr 2 0))), (5, .t (.one (.ptr 3 0))), (6, .t (.one (.ptr 4 0))), (76, (lJ f M))], [(fG f M), (dM f M), (fA f M), (fq f M), (fB f M), (fu f M)], 82, [], LP.top⟩
def zZ (f : aj) (M : ah) : AS := ⟨[(2, .t (.one (.ptr 0 0))), (3, .t (.one (.ptr 1 0))), (4, .t (.one (.ptr 2 0))), (5, .t (.one (.ptr 3 0))), (6, .t (.one (.ptr 4 0))), (72, .t (.one (.ptr 0 1))), (76, (lJ f M))], [(fG f M), (dM f M), (fA f M), (fq f M), (fB f M), (fu f M)], 82, [], LP.top⟩
def Dr (f : aj) (M : ah) : AS := ⟨[(2, .t (.one (.ptr 0 0))), (3, .t (.one (.ptr 1 0))), (4, .t (.one (.ptr 2 0))), (5, .t (.one (.ptr 3 0))), (6, .t (.one (.ptr 4 0))), (73, (rG f M)), (76, (lJ f M))], [(fG f M), (dM f M), (fA f M), (fq f M), (fB f M), (fu f M)], 82, [], LP.top⟩
def Dl (f : aj) (M : ah) : AS := ⟨[(2, .t (.one (.ptr 0 0))), (3, .t (.one (.ptr 1 0))), (4, .t (.one (.ptr 2 0))), (5, .t (.one (.ptr 3 0))), (6, .t (.one (.ptr 4 0))), (74, (rR f M)), (76, (lJ f M))], [(fG f M), (dM f M), (fA f M), (fq f M), (fB f M), (fu f M), none, none, (sK f M)], 82, [], LP.top⟩
def AJ (f : aj) (M : ah) : AS := ⟨[(2, .t (.one (.ptr 0 0))), (3, .t (.one (.ptr 1 0))), (4, .t (.one (.ptr 2 0))), (5, .t (.one (.ptr 3 0))), (6, .t (.one (.ptr 4 0))), (75, (kC f M)), (76, (lJ f M))], [(fG f M), (dM f M), (fA f M), (fq f M), (fB f M), (fu f M)], 82, [], LP.top⟩
def AQ (f : aj) (M : ah) : AS := ⟨[(2, .t (.one (.ptr 0 0))), (3, .t (.one (.ptr 1 0))), (4, .t (.one (.ptr 2 0))), (5, .t (.one (.ptr 3 0))), (6, .t (.one (.ptr 4 0))), (72, .t (.one (.ptr 0 1))), (75, (kC f M)), (76, (lJ f M))], [(fG f M), (dM f M), (fA f M), (fq f M), (fB f M), (fu f M)], 82, [], LP.top⟩
def Aj (f : aj) (M : ah) : AS := ⟨[(2, .t (.one (.ptr 0 0))), (3, .t (.one (.ptr 1 0))), (4, .t (.one (.ptr 2 0))), (5, .t (.one (.ptr 3 0))), (6, .t (.one (.ptr 4 0))), (73, (rG f M)), (75, (kC f M)), (76, (lJ f M))], [(fG f M), (dM f M), (fA f M), (fq f M), (fB f M), (fu f M)], 82, [], LP.top⟩
def Bg (f : aj) (M : ah) : AS := ⟨[(2, .t (.one (.ptr 0 0))), (3, .t (.one (.ptr 1 0))), (4, .t (.one (.ptr 2 0))), (5, .t (.one (.ptr 3 0))), (6, .t (.one (.ptr 4 0))), (74, (rR f M)), (75, (kC f M)), (76, (lJ f M))], [(fG f M), (dM f M), (fA f M), (fq f M), (fB f M), (fu f M), none, none, (sK f M)], 82, [], LP.top⟩
def BI (f : aj) (M : ah) : AS := ⟨[(2, .t (.one (.ptr 0 0))), (3, .t (.one (.ptr 1 0))), (4, .t (.one (.ptr 2 0))), (5, .t (.one (.ptr 3 0))), (6, .t (.one (.ptr 4 0))), (77, (lU f M))], [(fG f M), (dM f M), (fA f M), (fq f M), (fB f M), (fu f M), none, none, none, none, none, (dM f M)], 82, [], LP.top⟩
def BF (f : aj) (M : ah) : AS := ⟨[(2, .t (.one (.ptr 0 0))), (3, .t (.one (.ptr 1 0))), (4, .t (.one (.ptr 2 0))), (5, .t (.one (.ptr 3 0))), (6, .t (.one (.ptr 4 0))), (72, .t (.one (.ptr 0 1))), (77, (lU f M))], [(fG f M), (dM f M), (fA f M), (fq f M), (fB f M), (fu f M), none, none, none, none, none, (dM f M)], 82, [], LP.top⟩
def Cr (f : aj) (M : ah) : AS := ⟨[(2, .t (.one (.ptr 0 0))), (3, .t (.one (.ptr 1 0))), (4, .t (.one (.ptr 2 0))), (5, .t (.one (.ptr 3 0))), (6, .t (.one (.ptr 4 0))), (73, (rG f M)), (77, (lU f M))], [(fG f M), (dM f M), (fA f M), (fq f M), (fB f M), (fu f M), none, none, none, none, none, (dM f M)], 82, [], LP.top⟩
def DN (f : aj) (M : ah) : AS := ⟨[(2, .t (.one (.ptr 0 0))), (3, .t (.one (.ptr 1 0))), (4, .t (.one (.ptr 2 0))), (5, .t (.one (.ptr 3 0))), (6, .t (.one (.ptr 4 0))), (74, (rR f M)), (77, (lU f M))], [(fG f M), (dM f M), (fA f M), (fq f M), (fB f M), (fu f M), none, none, (sK f M), none, none, (dM f M)], 82, [], LP.top⟩
def BH (f : aj) (M : ah) : AS := ⟨[(2, .t (.one (.ptr 0 0))), (3, .t (.one (.ptr 1 0))), (4, .t (.one (.ptr 2 0))), (5, .t (.one (.ptr 3 0))), (6, .t (.one (.ptr 4 0))), (75, (kC f M)), (77, (lU f M))], [(fG f M), (dM f M), (fA f M), (fq f M), (fB f M), (fu f M), none, none, none, none, none, (dM f M)], 82, [], LP.top⟩
def BQ (f : aj) (M : ah) : AS := ⟨[(2, .t (.one (.ptr 0 0))), (3, .t (.one (.ptr 1 0))), (4, .t (.one (.ptr 2 0))), (5, .t (.one (.ptr 3 0))), (6, .t (.one (.ptr 4 0))), (72, .t (.one (.ptr 0 1))), (75, (kC f M)), (77, (lU f M))], [(fG f M), (dM f M), (fA f M), (fq f M), (fB f M), (fu f M), none, none, none, none, none, (dM f M)], 82, [], LP.top⟩
def CY (f : aj) (M : ah) : AS := ⟨[(2, .t (.one (.ptr 0 0))), (3, .t (.one (.ptr 1 0))), (4, .t (.one (.ptr 2 0))), (5, .t (.one (.ptr 3 0))), (6, .t (.one (.ptr 4 0))), (73, (rG f M)), (75, (kC f M)), (77, (lU f M))], [(fG f M), (dM f M), (fA f M), (fq f M), (fB f M), (fu f M), none, none, none, none, none, (dM f M)], 82, [], LP.top⟩
def Cx (f : aj) (M : ah) : AS := ⟨[(2, .t (.one (.ptr 0 0))), (3, .t (.one (.ptr 1 0))), (4, .t (.one (.ptr 2 0))), (5, .t (.one (.ptr 3 0))), (6, .t (.one (.ptr 4 0))), (74, (rR f M)), (75, (kC f M)), (77, (lU f M))], [(fG f M), (dM f M), (fA f M), (fq f M), (fB f M), (fu f M), none, none, (sK f M), none, none, (dM f M)], 82, [], LP.top⟩
def xR (f : aj) (M : ah) : AS := ⟨[(2, .t (.one (.ptr 0 0))), (3, .t (.one (.ptr 1 0))), (4, .t (.one (.ptr 2 0))), (5, .t (.one (.ptr 3 0))), (6, .t (.one (.ptr 4 0))), (78, .t (.one (.slc 8 0 (f.n + 1) 7)))], [(fG f M), (dM f M), (fA f M), (fq f M), (fB f M), (fu f M), none, none, some (iE (KE f M)), none, none, (dM f M)], 82, [], LP.top⟩
def vZ (f : aj) (M : ah) : AS := ⟨[(2, .t (.one (.ptr 0 0))), (3, .t (.one (.ptr 1 0))), (4, .t (.one (.ptr 2 0))), (5, .t (.one (.ptr 3 0))), (6, .t (.one (.ptr 4 0))), (78, .t (.one (.slc 8 0 (f.n + 1) 7))), (79, .t (.one (.ptr 0 1)))], [(fG f M), (dM f M), (fA f M), (fq f M), (fB f M), (fu f M), none, none, some (iE (KE f M)), none, none, (dM f M)], 82, [], LP.top⟩
def vJ (f : aj) (M : ah) : AS := ⟨[(2, .t (.one (.ptr 0 0))), (4, .t (.one (.ptr 2 0))), (5, .t (.one (.ptr 3 0)))], [some [.iv (.lst 13 f.k (jq f.S)), .slc 8 0 (f.n + 1) 7], (dM f M), (fA f M), (fq f M), (fB f M), (fu f M), none, none, some (iE (KE f M)), none, none, (dM f M)], 82, [], LP.top⟩
def gL (f : aj) (M : ah) (m : Nat) : AS := if m = 0 then ze f M else if m = 1 then EU f M else if m = 3 then GI f M else if m = 7 then Gx f M else if m = 8 then Gb f M else if m = 9 then Gl f M else if m = 11 then Am f M else if m = 15 then Af f M else if m = 16 then Ce f M else if m = 17 then zZ f M else if m = 19 then Dr f M else if m = 23 then Dl f M else if m = 24 then AJ f M else if m = 25 then AQ f M else if m = 27 then Aj f M else if m = 31 then Bg f M else if m = 48 then BI f M else if m = 49 then BF f M else if m = 51 then Cr f M else if m = 55 then DN f M else if m = 56 then BH f M else if m = 57 then BQ f M else if m = 59 then CY f M else if m = 63 then Cx f M else if m = 127 then xR f M else if m = 255 then vZ f M else if m = 511 then vJ f M else ze f M
theorem ady (f : aj) (M : ah) : gL f M 0 = ze f M := rfl
theorem acX (f : aj) (M : ah) : gL f M 1 = EU f M := rfl
theorem abF (f : aj) (M : ah) : gL f M 3 = GI f M := rfl
theorem ae4 (f : aj) (M : ah) : gL f M 7 = Gx f M := rfl
theorem aeS (f : aj) (M : ah) : gL f M 8 = Gb f M := rfl
theorem aeX (f : aj) (M : ah) : gL f M 9 = Gl f M := rfl
theorem Uw (f : aj) (M : ah) : gL f M 11 = Am f M := rfl
theorem VN (f : aj) (M : ah) : gL f M 15 = Af f M := rfl
theorem YO (f : aj) (M : ah) : gL f M 16 = Ce f M := rfl
theorem UN (f : aj) (M : ah) : gL f M 17 = zZ f M := rfl
theorem X4 (f : aj) (M : ah) : gL f M 19 = Dr f M := rfl
theorem aau (f : aj) (M : ah) : gL f M 23 = Dl f M := rfl
theorem YZ (f : aj) (M : ah) : gL f M 24 = AJ f M := rfl
theorem V6 (f : aj) (M : ah) : gL f M 25 = AQ f M := rfl
theorem Uc (f : aj) (M : ah) : gL f M 27 = Aj f M := rfl
theorem Zm (f : aj) (M : ah) : gL f M 31 = Bg f M := rfl
theorem Xy (f : aj) (M : ah) : gL f M 48 = BI f M := rfl
theorem Yi (f : aj) (M : ah) : gL f M 49 = BF f M := rfl
theorem aap (f : aj) (M : ah) : gL f M 51 = Cr f M := rfl
theorem Yb (f : aj) (M : ah) : gL f M 55 = DN f M := rfl
theorem Yo (f : aj) (M : ah) : gL f M 56 = BH f M := rfl
theorem YU (f : aj) (M : ah) : gL f M 57 = BQ f M := rfl
theorem aaj (f : aj) (M : ah) : gL f M 59 = CY f M := rfl
theorem V9 (f : aj) (M : ah) : gL f M 63 = Cx f M := rfl
theorem RO (f : aj) (M : ah) : gL f M 127 = xR f M := rfl
theorem Qt (f : aj) (M : ah) : gL f M 255 = vZ f M := rfl
theorem Q0 (f : aj) (M : ah) : gL f M 511 = vJ f M := rfl
attribute [go_sem] fG dM fA fq fB fu rG rR sK kC lJ lU aev ze ady abM EU acX aes GI abF ac5 Gx ae4 aer Gb aeS aby Gl aeX TL Am Uw Ux Af VN WW Ce YO WK zZ UN Xw Dr X4 Zl Dl aau TQ AJ YZ Un AQ V6 TB Aj Uc aar Bg Zm WR BI Xy YL BF Yi Y7 Cr aap Wh DN Yb VE BH Yo Xq BQ YU VK CY aaj Zz Cx V9 Qw xR RO PY vZ Qt Qn vJ Q0
theorem XW (f : aj) (M : ah) (hn : f.n <= 200) {os : List Oper} {ty : Nat} {tys : Array TypeId} {pos : String} {aft : Array Edge} (ho : kF os 6 = some ⟨some 78, .call ⟨.value (.func 42), #[.tmp 74, .tmp 75, .tmp 77], tys⟩, ty, pos, aft, none⟩) : Te Tryz.prog (kF os 6) (gL f M 63) (gL f M 127) := by
  refine Tq (i := 8) (j := 11) (n := f.n) (p := iy f M) (l := Go.Sea.eG (eP f.N) 7 f.n 0) (x := [.iv (.g (.int .i64 M.oc)), .iv (.g (.int .i64 M.nu)), .iv (.g (.int .i64 M.kd)), .iv (.g (.int .i64 M.fr)), .iv (.g (.int .i64 M.un)), .iv (.g (.int .i64 M.ca)), .iv (.lst 3 M.n (dK M.p))]) (L := [2,3,4,5,6,78]) ho rfl rfl rfl rfl rfl (Go.Sea.gI _ _ _ _) (EN _ _ _ _) rfl (fun y hy => ?_) (by decide) (ku f M) (by omega) (by show 78 < 82; decide) ?_
  · simp only [List.mem_cons, List.not_mem_nil, or_false] at hy
    rcases hy with rfl | rfl | rfl | rfl | rfl | rfl | rfl <;> trivial
  · rw [ahx]; exact ⟨rfl⟩
theorem ala (f : aj) (hf : f.Ok) (M : ah) (ho : M.Ok) (hv : fK f = true) (hw : gD M = true) (h2 : ¬ (0 < f.n /\ (f.N 0).oc ≠ M.oc)) : aA Tryz.prog 12 [jJ f, .agg [.g (.int .i64 M.oc), .g (.int .i64 M.nu), .g (.int .i64 M.kd), .g (.int .i64 M.fr), .g (.int .i64 M.un), .g (.int .i64 M.ca), .lst 3 M.n (dK M.p)]] (.tup [jJ (dZ f M), .one (.g (.int .i64 (iK f M)))]) := by
  have hn := hf.n
  have hnn := (mM (iB hv).2.2).1
  have hJn := ku f M
  have ht1 : True := trivial
  have mk1 : True := trivial
  refine ak Tryz.func12 rfl (by rw [Tryz.ntmps12]; simp) ?_
  simp only [Tryz.ntmps12, zM, PT.tv, au, Nat.zero_add, Nat.reduceAdd]
  repeat' (first
 | ((with_reducible show AW _ _ _ _); first
 | (with_reducible first | refine aS (fun K hK => ?_) | refine aI ?_ | refine aX ?_ | refine aT ?_ | refine aC ?_ | refine aB ?_)
 | ((refine eT (k := 85) rfl Tryz.func85 rfl aea (by rw [Tryz.ntmps85]; simp) ?_ ?_ (fun l hlne A B hA hB => ?_)); (focus (simp (maxSteps := 2000000) only [go_sem, reduceIte, reduceCtorEq, xA, xL, xD, xE, xM, xS, xB, Tryz.f12, Tryz.f85, Tryz.f41, bn, hv, hw, ht1, DI, BD, l5, mq, jB, mY, maxLen]; try exact True.intro)); (focus (simp (maxSteps := 2000000) only [go_sem, reduceIte, reduceCtorEq, xA, xL, xD, xE, xM, xS, xB, Tryz.f12, Tryz.f85, Tryz.f41, bn, hv, hw, ht1, DI, BD, l5, mq, jB, mY, maxLen]; try exact True.intro)); simp only [Tryz.ntmps85, List.map_cons, List.map_nil, LV.tv, au, yV, Nat.zero_add, Nat.reduceAdd]; clear hlne)
 | (with_reducible refine u7 (by assumption) ?_)
 | (first
 | (with_reducible first | refine aP (ops := #[⟨some 2, _, _, _, _, _⟩, _, _, _]) 0 [0,1,39,40] ?_ | refine aP (ops := #[⟨some 4, _, _, _, _, _⟩, _, _, _]) 0 [0,1] ?_ | refine aP (ops := #[⟨some 1, _, _, _, _, _⟩, _]) 0 [0] ?_ | refine aP (ops := #[⟨some 9, _, _, _, _, _⟩, _, _, _, _, _, _, _]) 1 [2,3,4,5,39,40] ?_ | refine aP (ops := #[⟨some 7, _, _, _, _, _⟩, _]) 1 [0,1,3] ?_ | refine aP (ops := #[⟨some 3, _, _, _, _, _⟩, _]) 1 [1] ?_ | refine aP (ops := #[⟨some 9, _, _, _, _, _⟩, _, _]) 2 [0,1,3] ?_ | refine aP 3 [0,1,3] ?_)
 | ((with_reducible refine aR (c := Code.region 3 _ true) [2,3,4,5,39,40] ?_); (with_reducible refine aD ?_ ?_ ?_ ?_); (focus kernel_rfl); (focus kernel_rfl); (focus kernel_rfl))
 | (with_reducible first | refine aP 5 [2,3,4,5,39,40] ?_ | refine aP 6 [2,3,4,5,6,39,40] ?_ | refine aP 7 [2,3,4,5,6,39,40] ?_ | refine aP 8 [2,3,4,5,6,7,39,40] ?_ | refine aP 9 [2,3,4,5,6,7,8,39,40] ?_ | refine aP 10 [2,3,4,5,6,7,39,40] ?_ | refine aP 11 [2,3,4,5,6,8,39,40] ?_ | refine aP 12 [4,5] ?_ | refine aP 13 [2,3,4,5,6,8,39,40] ?_ | refine aP 14 [4,5] ?_ | refine aP 15 [2,3,4,5,6] ?_ | refine aP 16 [4,5] ?_)
 | ((with_reducible refine aR (c := Code.region 17 _ true) [2,3,4,5,6] ?_); (with_reducible refine KZ 511 [0,1,3,7,8,9,11,15,16,17,19,23,24,25,27,31,48,49,51,55,56,57,59,63,127,255,511] [(0, 0, 1), (0, 3, 8), (0, 4, 16), (1, 1, 3), (1, 3, 9), (1, 4, 17), (8, 0, 9), (8, 4, 24), (16, 0, 17), (16, 3, 24), (16, 5, 48), (3, 2, 7), (3, 3, 11), (3, 4, 19), (9, 1, 11), (9, 4, 25), (17, 1, 19), (17, 3, 25), (17, 5, 49), (24, 0, 25), (24, 5, 56), (48, 0, 49), (48, 3, 56), (7, 3, 15), (7, 4, 23), (11, 2, 15), (11, 4, 27), (19, 2, 23), (19, 3, 27), (19, 5, 51), (25, 1, 27), (25, 5, 57), (49, 1, 51), (49, 3, 57), (56, 0, 57), (15, 4, 31), (23, 3, 31), (23, 5, 55), (27, 2, 31), (27, 5, 59), (51, 2, 55), (51, 3, 59), (57, 1, 59), (31, 5, 63), (55, 3, 63), (59, 2, 63), (63, 6, 127), (127, 7, 255), (255, 8, 511)] (gN 0) (gL f M) ?hm17 ?hb17 ?hd17 ?hc17 ?h017 ?hh17 ?hq17); (case' hm17 => kernel_rfl); (case' hb17 => kernel_rfl); (case' hd17 => kernel_rfl); (case' hc17 => kernel_rfl); (case' h017 => (exact ⟨rfl⟩)); (case' hh17 => (simp only [List.toList_toArray, List.length_cons, List.length_nil, Nat.reduceAdd]; repeat' (first | ((with_reducible show Ll _ _ _ _); first | exact Sm | (with_reducible refine KS ?_ ?_)) | ((with_reducible show Te _ _ _ _); first | ((with_reducible show Te _ (kF _ 2) _ _); (with_reducible refine SC (L := gN) (fun K hK => ?_))) | ((with_reducible show Te _ (kF _ 6) _ _); exact XW f M hnn rfl) | (with_reducible refine abp (n0 := 6) (L := gN) (fun K hK => ?_))) | ((with_reducible show Ml _ _ _ _ _ _); simp (maxSteps := 2000000) only [go_sem, reduceIte, reduceCtorEq, xA, xL, xD, xE, xM, xS, xB, Tryz.f12, Tryz.f85, Tryz.f41, bn, hv, hw, ht1, DI, BD, l5, mq, jB, mY, maxLen]) | ((with_reducible show OL _ _ _ _); simp (maxSteps := 2000000) only [go_sem, reduceIte, reduceCtorEq, xA, xL, xD, xE, xM, xS, xB, Tryz.f12, Tryz.f85, Tryz.f41, bn, hv, hw, ht1, DI, BD, l5, mq, jB, mY, maxLen]) | (refine nK (k := 43) Nv (Ba (WC f.n (eP f.N) (by omega)) (i := 8) rfl) ?_ ?_) | ((with_reducible refine Need.mk ?_); trivial) | ((with_reducible show fP _ _ _ _ _); simp only [Je]) | ((with_reducible refine hK _ ?_); clear hK K) | ((with_reducible show Leaf _ _); exact ⟨rfl⟩)))); (case' hq17 => (simp only [go_sem])))
 | (with_reducible refine vH (c := Code.region 18 _ false) [8] ?_ (aP 18 [2,4,5] ?_)))
 | ((with_reducible show AW _ (Code.loop _) _ _); first
 | ((with_reducible refine aL (c := (Code.seq (Code.seq (Code.region 1 _ _) _) _)) (ι := Nat) [0,1] (fun v => [(3, iA .i64 ((v : Int) - 1))]) (fun v => [(4, [.iv (.g (.int .i64 (Rh f M v : Int)))])]) (fun v => v <= f.n /\ (∀ j, v <= j -> j < f.n -> (f.N j).nu ≠ M.nu)) (fun v => v) f.n ?lg1 ?l11 ?l21 ?li1 ?lr1); (case' lg1 => rintro v _); (case' li1 => try (exact ⟨Nat.le_refl _, fun j h1 h2 => absurd h2 (by omega)⟩)); (case' lr1 => rintro v ⟨hvn, hai⟩ KR hR1; have ht1 : ((v : Int) - 1).toNat = v - 1 := (by omega); simp only [bI, dI, hset, lk, if_true, if_false, xE, reduceIte, zN, hv, hw, ht1, DI, BD, l5, mq, jB, mY, maxLen]))))
 | ((first | (with_reducible refine And.intro ?_ ?_) | (with_reducible refine Need.mk ?_)); focus (first | exact Gi _ | first | exact True.intro | omega | (intro _; first | exact True.intro | (with_reducible assumption)) | (simp (disch := omega) only [Bool.and_eq_true, Bool.or_eq_true, decide_eq_true_eq, bne_iff_ne, ne_eq] at *; omega)))
 | (with_reducible refine aJ ?_)
 | ((with_reducible show bL _ _ _ _ _ _); first
 | ((with_reducible refine aM ?_ ?_) <;> (intro hc; (try simp only [zB, zC, reduceCtorEq] at hc); ((try (have e0 : v = 0 := (by omega); subst e0))); (try (exfalso; omega)))))
 | ((with_reducible refine And.intro ?_ ?_); focus ((with_reducible show gW _ _ _ = true); kernel_rfl))
 | ((with_reducible show aQ _ _ _ _ _ _ _ _ _ _); first
 | (refine aF (k := 44) Oq (ahp (Tg f M) (Tz hf ho hnn) (show f.k <= 1000 from ane hv) _ _ (fun i o _ _ => IV.bf _) (acs (f := f) (M := M))) ?_ ?_)
 | (refine aF (k := 26) qB (IG f hf) ?_ ?_)
 | ((refine dA (k := 41) Tryz.func41 rfl Oi (by rw [Tryz.ntmps41]; simp) ?_ ?_ (fun K hK => ?_)); (focus (exact True.intro)); (focus ((simp [jF]; done))); simp only [Tryz.ntmps41, List.map_cons, List.map_nil, List.nil_append, List.cons_append, List.append_nil, LV.tv, au, Nat.zero_add, Nat.reduceAdd]))
 | ((with_reducible show bG _ _ _ _ _ _ _ _ _ _); first
 | (refine aO (k := 18) iP (fun hg => nX M ho) ?_ ?_)
 | (refine aO (k := 19) zx (fun hg => aiD (f.N (v - 1)) M (hf.nn (v - 1) (by omega)) ho) ?_ ?_))
 | ((with_reducible refine hR1 _ (v - 1) ?_); (try clear hR1 KR))
 | ((with_reducible refine Told.mk ?_); simp only [go_sem, reduceIte, reduceCtorEq, xA, xL, xD, xE, xM, xS, xB, bn, hv, hw, ht1, DI, BD, l5, mq, jB, mY, maxLen] <;> ((((try simp (disch := omega) only [aV, Int.natCast_add, Int.cast_ofNat_Int, and_true, true_and, and_self]); (repeat' (first | omega | (with_reducible refine And.intro ?_ ?_) | ((exact adu hai (by omega))) | ((exact aik hv (by assumption) (by assumption) (by assumption))) | ((exact agF hv (by assumption) (by assumption) (by assumption) (by assumption))))); done))))
 | ((fail_if_success (with_reducible show AW _ _ _ _)); simp (maxSteps := 2000000) only [go_sem, reduceIte, reduceCtorEq, xA, xL, xD, xE, xM, xS, xB, Tryz.f12, Tryz.f85, Tryz.f41, bn, hv, hw, ht1, DI, BD, l5, mq, jB, mY, maxLen])
 | ((fail_if_success (with_reducible show AW _ _ _ _)); simp (disch := omega) only [aV, ig, iq])
 | ((with_reducible show aQ _ _ _ _ _ _ (.yld _) _ _ _); (refine lS (by simp only [EG, if_true]; exact rfl) ?_ (by simp) ?_ ?_ (fun K hK => ?_)); (focus (exact True.intro)); (focus (simp [ng])); (focus ((simp [jF]; done))); simp only [jm, gf, if_true, Nat.reduceAdd])
 | ((with_reducible refine hK _ ?_); clear hK K)
 | (with_reducible apply_assumption -exfalso only [*]))
  all_goals first | (exfalso; omega) | (have e0 : v - 1 = iy f M := afK hv (by omega) (by first | assumption | exact (by assumption : _ /\ _).1); have h8 : iy f M < f.n /\ (f.N (iy f M)).nu = M.nu := ⟨by omega, by rw [<- e0]; first | assumption | exact (by assumption : _ /\ _).1⟩; first | (have e := ana ⟨hv, hw⟩ h2 h8 (by rw [<- e0]; exact (by assumption : _ /\ _).2); rw [sJ (by omega), e]; unfold uT; (repeat' (first | exact rfl | (with_reducible refine And.intro ?_ ?_))); done) | (have e := amk ⟨hv, hw⟩ h2 h8 (by rw [<- e0]; exact Or.resolve_left (by assumption : (f.N (v - 1)).nu ≠ M.nu \/ vk (f.N (v - 1)) M = false) (fun q => q (by assumption))); rw [sJ (by omega), e]; unfold uT; (repeat' (first | exact rfl | (with_reducible refine And.intro ?_ ?_))); done)) | (have e := Ow ⟨hv, hw⟩ h2 (fun q => hai _ (by omega) (by omega) q.2); rw [if_pos (by omega)] at e; rw [sJ (by omega), e]; unfold uT; (repeat' (first | exact rfl | (with_reducible refine And.intro ?_ ?_))); done) | (have e := Ow ⟨hv, hw⟩ h2 (fun q => hai _ (by omega) (by omega) q.2); rw [if_neg (by omega)] at e; rw [yI e, e]; (repeat' (first | exact rfl | (with_reducible refine And.intro ?_ ?_) | (intro i q hi hq; exact IV.bf _))); done) | skip
theorem jE (f : aj) (hf : f.Ok) (M : ah) (ho : M.Ok) : aA Tryz.prog 12 [jJ f, .agg [.g (.int .i64 M.oc), .g (.int .i64 M.nu), .g (.int .i64 M.kd), .g (.int .i64 M.fr), .g (.int .i64 M.un), .g (.int .i64 M.ca), .lst 3 M.n (dK M.p)]] (.tup [jJ (dZ f M), .one (.g (.int .i64 (iK f M)))]) := by
  by_cases h : fK f = false \/ gD M = false
  · exact rec_1 f hf M ho h
  · simp only [not_or, Bool.not_eq_false] at h
    by_cases h2 : 0 < f.n /\ (f.N 0).oc ≠ M.oc
    · exact rec_2 f hf M ho h.1 h.2 h2
    · exact ala f hf M ho h.1 h.2 h2
end Go.Proofs.YtcfechepbamhkaaGreat
set_option maxRecDepth 100000
set_option maxHeartbeats 4000000
namespace Go.Proofs.YtcfechepbamhkaaGreat
open Go.RowKit Go.Sea
open Nat renaming reduceAdd -> xA, reduceLT -> xL, reduceLeDiff -> xD, reduceEqDiff -> xE, reduceMul -> xM, reduceSub -> xS, reduceBEq -> xB
theorem fD : aN Tryz.prog 12 = true := by kernel_rfl
theorem afc : aN Tryz.prog 28 = true := by kernel_rfl
attribute [go_sem] fD afc
theorem qE {f : aj} {M : ah} (h : iK f M = 0) : fK f = true /\ gD M = true /\ f.n < 200 /\ (0 < f.n -> (f.N 0).oc = M.oc) /\ ¬ (iy f M < f.n /\ (f.N (iy f M)).nu = M.nu) := by
  unfold iK at h
  split at h
  · rename_i hv
    split at h
    · cases h
    · rename_i h2
      split at h
      · split at h <;> cases h
      · rename_i h3
        split at h
        · cases h
        · rename_i h4
          have := (mM (iB hv.1).2.2).1
          exact ⟨hv.1, hv.2, by omega, fun g => Classical.byContradiction fun q => h2 ⟨g, q⟩, h3⟩
  · cases h
theorem mh {f : aj} (hf : f.Ok) {M : ah} (ho : M.Ok) : (dZ f M).Ok := by
  by_cases h : iK f M = 0
  · rw [yI h]; exact acS (Tz hf ho (by have := (qE h).2.2.1; omega))
  · rw [sJ h]; exact OQ
end Go.Proofs.YtcfechepbamhkaaGreat
set_option maxRecDepth 100000
set_option maxHeartbeats 4000000
namespace Go.Proofs.YtcfechepbamhkaaGreat
open Go.RowKit Go.Sea
open Nat renaming reduceAdd -> xA, reduceLT -> xL, reduceLeDiff -> xD, reduceEqDiff -> xE, reduceMul -> xM, reduceSub -> xS, reduceBEq -> xB
theorem EP : aN Tryz.prog 84 = true := by kernel_rfl
theorem Wp : aN Tryz.prog 123 = true := by kernel_rfl
attribute [go_sem] EP Wp
theorem Uu {s : aH} {n : Nat} {N : Nat -> ah} (h : QG s n N = true) : gU s = true /\ uw n N = true /\ n <= 200 := by
  unfold QG at h; simp only [Bool.and_eq_true] at h; exact ⟨h.1, h.2, (mM h.2).1⟩
theorem anP (s : aH) (n : Nat) (N : Nat -> ah) (hs : s.Ok) (hn : n <= 9223372036854775807) (hN : ∀ i, i < n -> (N i).Ok) (hB : QG s n N = false) : aA Tryz.prog 71 [(qy s), .one (.lst 7 n (eP N))] (.tup [.one (.g (.int .i64 (UpV s n N))), .one (.g (.int .i64 (UpE s n N)))]) := by
  refine ak Tryz.func71 rfl (by rw [Tryz.ntmps71]; simp) ?_
  simp only [qy, Tryz.ntmps71, zM, PT.tv, au, Nat.zero_add, Nat.reduceAdd]
  repeat' (first
 | ((with_reducible show AW _ _ _ _); first
 | (with_reducible first | refine aS (fun K hK => ?_) | refine aI ?_ | refine aT ?_ | refine aC ?_)
 | (first
 | (with_reducible first | refine aP 0 [0,1] ?_ | refine aP 1 [1,2] ?_ | refine aP 2 [] ?_)))
 | ((first | (with_reducible refine And.intro ?_ ?_) | (with_reducible refine Need.mk ?_)); focus (first | exact True.intro | (intro _; (with_reducible assumption)) | (simp; done)))
 | (with_reducible refine aJ ?_)
 | ((with_reducible show bL _ _ _ _ _ _); first
 | ((with_reducible refine aM ?_ ?_) <;> (intro hc; (try simp only [zB, zC, reduceCtorEq] at hc); (try (exfalso; contradiction)))))
 | ((with_reducible show aQ _ _ _ _ _ _ _ _ _ _); first
 | (refine aF (k := 48) kH (lN s hs) ?_ ?_))
 | ((with_reducible show bG _ _ _ _ _ _ _ _ _ _); first
 | (refine aO (k := 82) zo (fun hg => aag n N hn hN) ?_ ?_))
 | ((fail_if_success (with_reducible show AW _ _ _ _)); simp (maxSteps := 2000000) only [go_sem, reduceIte, reduceCtorEq, xA, xL, xD, xE, xM, xS, xB, Tryz.f71, bn])
 | ((with_reducible refine hK _ ?_); clear hK K))
  all_goals (first | (have e := agS hB; rw [e.1, e.2]; (repeat' (first | exact rfl | (with_reducible refine And.intro ?_ ?_))); done) | exact (alZ hB hc).elim)
theorem an3 (s : aH) (n : Nat) (N : Nat -> ah) (hs : s.Ok) (hn : n <= 9223372036854775807) (hN : ∀ i, i < n -> (N i).Ok) (hB : QG s n N = true) (h0 : (mR s N n).length = 0) : aA Tryz.prog 71 [(qy s), .one (.lst 7 n (eP N))] (.tup [.one (.g (.int .i64 (UpV s n N))), .one (.g (.int .i64 (UpE s n N)))]) := by
  have h3 := Uu hB
  have hv := h3.1
  have hw := h3.2.1
  have hn2 := h3.2.2
  have hle := zq s N n
  have hlt : (((mR s N n).length : Int) > 0) = False := eq_false (by omega)
  have hms := alL h0
  refine ak Tryz.func71 rfl (by rw [Tryz.ntmps71]; simp) ?_
  simp only [qy, Tryz.ntmps71, zM, PT.tv, au, Nat.zero_add, Nat.reduceAdd]
  repeat' (first
 | ((with_reducible show AW _ _ _ _); first
 | (with_reducible first | refine aS (fun K hK => ?_) | refine aI ?_ | refine aX ?_ | refine aT ?_ | refine aC ?_ | refine aB ?_)
 | (first
 | (with_reducible first | refine aP 0 [0,1] ?_ | refine aP 1 [1,2] ?_ | refine aP 3 [1,2] ?_ | refine aP 4 [1,2,6] ?_ | refine aP 5 [1,6,7] ?_ | refine aP 7 [1,6] ?_ | refine aP 8 [1,6,8] ?_ | refine aP 9 [6,8,29,30,31] ?_ | refine aP 10 [6,8,29,30,31] ?_ | refine aP 11 [6,8,10,29,30,31] ?_ | refine aP 12 [6,10,29,30,31] ?_ | refine aP 13 [6,8,29,30,31] ?_ | refine aP 14 [8] ?_))
 | ((with_reducible show AW _ (Code.loop _) _ _); first
 | ((with_reducible refine aL (c := (Code.seq (Code.region 9 _ _) _)) (ι := Nat) [6,29,30] (fun i => [(8, iA .i64 (upL N (Iw (mR s N n)) i)), (31, iA .i64 (i : Int))]) (fun i => []) (fun i => i <= n) (fun i => n - i) 0 ?lg9 ?l19 ?l29 ?li9 ?lr9); (case' lg9 => rintro i _); (case' li9 => try (omega)); (case' lr9 => rintro i hi KR hR9; simp only [bI, dI, hset, lk, if_true, if_false, xE, reduceIte, zN, hv, hw, hlt]))))
 | ((first | (with_reducible refine And.intro ?_ ?_) | (with_reducible refine Need.mk ?_)); focus (first | exact True.intro | omega | (intro _; exact True.intro)))
 | (with_reducible refine aJ ?_)
 | ((with_reducible show bL _ _ _ _ _ _); first
 | ((with_reducible refine aM ?_ ?_) <;> (intro hc; (try simp only [zB, zC, reduceCtorEq] at hc); (try (exfalso; contradiction)))))
 | ((with_reducible show aQ _ _ _ _ _ _ _ _ _ _); first
 | (refine aF (k := 48) kH (lN s hs) ?_ ?_)
 | (refine aF (k := 84) EP (afw s n N hs hn hN hv (by omega)) ?_ ?_))
 | ((with_reducible show bG _ _ _ _ _ _ _ _ _ _); first
 | (refine aO (k := 82) zo (fun hg => aag n N hn hN) ?_ ?_))
 | ((with_reducible refine hR9 _ (i + 1) ?_); (try clear hR9 KR))
 | ((with_reducible refine Told.mk ?_); simp only [go_sem, reduceIte, reduceCtorEq, xA, xL, xD, xE, xM, xS, xB, bn, hv, hw, hlt] <;> ((((try simp (disch := omega) only [aV, Int.natCast_add, Int.cast_ofNat_Int, and_true, true_and, and_self]); (repeat' (first | omega | rfl | (with_reducible refine And.intro ?_ ?_) | ((first | (rw [afR (by rw [hms]; omega)]) | (rw [afD (by rw [hms]; omega)]))))); done))))
 | ((fail_if_success (with_reducible show AW _ _ _ _)); simp (maxSteps := 2000000) only [go_sem, reduceIte, reduceCtorEq, xA, xL, xD, xE, xM, xS, xB, Tryz.f71, bn, hv, hw, hlt])
 | ((with_reducible refine hK _ ?_); clear hK K)
 | (with_reducible apply_assumption -exfalso only [*]))
  all_goals ((have e := amK hB; rw [e.1, e.2]; have e0 : n = i := (by omega); subst e0; (repeat' (first | exact rfl | (with_reducible refine And.intro ?_ ?_))); done))
theorem akt (s : aH) (n : Nat) (N : Nat -> ah) (hs : s.Ok) (hn : n <= 9223372036854775807) (hN : ∀ i, i < n -> (N i).Ok) (hB : QG s n N = true) (h0 : (mR s N n).length ≠ 0) : aA Tryz.prog 71 [(qy s), .one (.lst 7 n (eP N))] (.tup [.one (.g (.int .i64 (UpV s n N))), .one (.g (.int .i64 (UpE s n N)))]) := by
  have h3 := Uu hB
  have hv := h3.1
  have hw := h3.2.1
  have hn2 := h3.2.2
  have hle := zq s N n
  have hlt : (((mR s N n).length : Int) > 0) = True := eq_true (by omega)
  have hms := alc h0
  refine ak Tryz.func71 rfl (by rw [Tryz.ntmps71]; simp) ?_
  simp only [qy, Tryz.ntmps71, zM, PT.tv, au, Nat.zero_add, Nat.reduceAdd]
  repeat' (first
 | ((with_reducible show AW _ _ _ _); first
 | (with_reducible first | refine aS (fun K hK => ?_) | refine aI ?_ | refine aX ?_ | refine aT ?_ | refine aC ?_ | refine aB ?_)
 | (first
 | (with_reducible first | refine aP 0 [0,1] ?_ | refine aP 1 [1,2] ?_ | refine aP 3 [1,2] ?_ | refine aP 4 [1,2,6] ?_ | refine aP 5 [1,6,7] ?_ | refine aP 6 [1,7] ?_ | refine aP 7 [1,6] ?_ | refine aP 8 [1,6,8] ?_ | refine aP 9 [6,8,29,30,31] ?_ | refine aP 10 [6,8,29,30,31] ?_ | refine aP 11 [6,8,10,29,30,31] ?_ | refine aP 12 [6,10,29,30,31] ?_ | refine aP 13 [6,8,29,30,31] ?_ | refine aP 14 [8] ?_))
 | ((with_reducible show AW _ (Code.loop _) _ _); first
 | ((with_reducible refine aL (c := (Code.seq (Code.region 9 _ _) _)) (ι := Nat) [6,29,30] (fun i => [(8, iA .i64 (upL N (Iw (mR s N n)) i)), (31, iA .i64 (i : Int))]) (fun i => []) (fun i => i <= n) (fun i => n - i) 0 ?lg9 ?l19 ?l29 ?li9 ?lr9); (case' lg9 => rintro i _); (case' li9 => try (omega)); (case' lr9 => rintro i hi KR hR9; simp only [bI, dI, hset, lk, if_true, if_false, xE, reduceIte, zN, hv, hw, hlt]))))
 | ((first | (with_reducible refine And.intro ?_ ?_) | (with_reducible refine Need.mk ?_)); focus (first | exact True.intro | omega | (intro _; exact True.intro)))
 | (with_reducible refine aJ ?_)
 | ((with_reducible show bL _ _ _ _ _ _); first
 | ((with_reducible refine aM ?_ ?_) <;> (intro hc; (try simp only [zB, zC, reduceCtorEq] at hc); (try (exfalso; contradiction)))))
 | ((with_reducible show aQ _ _ _ _ _ _ _ _ _ _); first
 | (refine aF (k := 48) kH (lN s hs) ?_ ?_)
 | (refine aF (k := 84) EP (afw s n N hs hn hN hv (by omega)) ?_ ?_))
 | ((with_reducible show bG _ _ _ _ _ _ _ _ _ _); first
 | (refine aO (k := 82) zo (fun hg => aag n N hn hN) ?_ ?_))
 | ((with_reducible refine hR9 _ (i + 1) ?_); (try clear hR9 KR))
 | ((with_reducible refine Told.mk ?_); simp only [go_sem, reduceIte, reduceCtorEq, xA, xL, xD, xE, xM, xS, xB, bn, hv, hw, hlt] <;> ((((try simp (disch := omega) only [aV, Int.natCast_add, Int.cast_ofNat_Int, and_true, true_and, and_self]); (repeat' (first | omega | rfl | (with_reducible refine And.intro ?_ ?_) | ((first | (rw [afR (by rw [hms]; omega)]) | (rw [afD (by rw [hms]; omega)]))))); done))))
 | ((fail_if_success (with_reducible show AW _ _ _ _)); simp (maxSteps := 2000000) only [go_sem, reduceIte, reduceCtorEq, xA, xL, xD, xE, xM, xS, xB, Tryz.f71, bn, hv, hw, hlt])
 | ((with_reducible refine hK _ ?_); clear hK K)
 | (with_reducible apply_assumption -exfalso only [*]))
  all_goals ((have e := amK hB; rw [e.1, e.2]; have e0 : n = i := (by omega); subst e0; (repeat' (first | exact rfl | (with_reducible refine And.intro ?_ ?_))); done))
theorem anE (s : aH) (n : Nat) (N : Nat -> ah) (hs : s.Ok) (hn : n <= 9223372036854775807) (hN : ∀ i, i < n -> (N i).Ok) : aA Tryz.prog 71 [(qy s), .one (.lst 7 n (eP N))] (.tup [.one (.g (.int .i64 (UpV s n N))), .one (.g (.int .i64 (UpE s n N)))]) := by
  cases hB : QG s n N with
  | false => exact anP s n N hs hn hN hB
  | true =>
    by_cases h0 : (mR s N n).length = 0
    · exact an3 s n N hs hn hN hB h0
    · exact akt s n N hs hn hN hB h0
end Go.Proofs.YtcfechepbamhkaaGreat
set_option maxRecDepth 100000
set_option maxHeartbeats 4000000
namespace Go.Proofs.YtcfechepbamhkaaGreat
open Go.RowKit Go.Sea
open Nat renaming reduceAdd -> xA, reduceLT -> xL, reduceLeDiff -> xD, reduceEqDiff -> xE, reduceMul -> xM, reduceSub -> xS, reduceBEq -> xB
theorem qH : aN Tryz.prog 31 = true := by kernel_rfl
theorem aj6 : lQ Tryz.prog 68 = some (false, 1) := by kernel_rfl
attribute [go_sem] qH aj6
end Go.Proofs.YtcfechepbamhkaaGreat
namespace Go.Proofs.YtcfechepbamhkaaGreat
open Go.RowKit Go.Sea
structure Eo where
  nu : Int
  q : Nat
  a : Nat -> Int
def uJ : Eo := ⟨0, 0, fun _ => 0⟩
def c2 (s : Eo) : List CV := [.iv (.g (.int .i64 s.nu)), .iv (.lst 1 s.q (bn s.a))]
end Go.Proofs.YtcfechepbamhkaaGreat
namespace Go.Proofs.YtcfechepbamhkaaGreat
open Go.RowKit Go.Sea
def lu (l : List Int) (k : Int) : Option PT := if l.contains k = true then some (.one (.g (.bool true))) else none
theorem eU : lu [] = fun _ => none := rfl
theorem FP {l : List Int} {k : Int} (h : l.contains k = true) : lu l k = some (.one (.g (.bool true))) := by unfold lu; rw [if_pos h]
theorem Fw {l : List Int} {k : Int} (h : l.contains k = false) : lu l k = none := by unfold lu; rw [if_neg (by rw [h]; simp)]
theorem Yq (l : List Int) (k : Int) : jK (lu l) k (.one (.g (.bool true))) = lu (l ++ [k]) := by
  funext j
  unfold jK lu
  by_cases h : j = k
  · rw [if_pos h, if_pos (by simp [h])]
  · rw [if_neg h]
    have : (l ++ [k]).contains j = l.contains j := by
      rw [Bool.eq_iff_iff]; simp [h]
    rw [this]
theorem aad {l : List Int} {k : Int} {n : Nat} (h : l.contains k = false) : lD n (lu l) k = n + 1 := by unfold lD; rw [Fw h]; rfl
def nuL (l : List Eo) (i : Nat) : List Int := (List.range i).map fun j => (l.getD j uJ).nu
structure VS (l : List Eo) : Prop where
  n : l.length <= 200
  nu : ∀ i, i < l.length -> 1 <= (l.getD i uJ).nu /\ (l.getD i uJ).nu <= 10000
  r : ∀ i j, i < j -> j < l.length -> (l.getD i uJ).nu < (l.getD j uJ).nu
  q : ∀ i, i < l.length -> (l.getD i uJ).q <= 200
  s : ∀ i, i < l.length -> ∀ j, 0 < j -> j < (l.getD i uJ).q -> (l.getD i uJ).a (j - 1) < (l.getD i uJ).a j
  a : ∀ i, i < l.length -> ∀ j, j < (l.getD i uJ).q -> (nuL l i).contains ((l.getD i uJ).a j) = true
theorem acT {l : List Eo} {i : Nat} {x : Int} : (nuL l i).contains x = true ↔ ∃ j, j < i /\ (l.getD j uJ).nu = x := by
  unfold nuL; simp
theorem VS.new {l : List Eo} (h : VS l) {i : Nat} (hi : i < l.length) : (nuL l i).contains (l.getD i uJ).nu = false := by
  cases e : (nuL l i).contains (l.getD i uJ).nu with
  | false => rfl
  | true =>
    obtain ⟨j, h1, h2⟩ := acT.1 e
    have := h.r j i h1 hi
    omega
structure DS (k : Nat) (d : Nat -> Int) : Prop where
  kk : k <= 200
  r : ∀ i j, i < j -> j < k -> d i < d j
  b : ∀ i, i < k -> 1 <= d i /\ d i <= 10000
theorem DS.new {k : Nat} {d : Nat -> Int} (h : DS k d) {i : Nat} (hi : i < k) : (lM i d).contains (d i) = false := by
  rw [OB]
  exact decide_eq_false fun ⟨j, h1, h2⟩ => by have := h.r j i h1 hi; omega
end Go.Proofs.YtcfechepbamhkaaGreat
namespace Go.Proofs.YtcfechepbamhkaaGreat
open Go.RowKit Go.Sea
def yj (l : List Int) (x : Int) : List Int := if l.contains x = true then l else l ++ [x]
theorem EW {l : List Int} {x : Int} (h : l.contains x = true) : yj l x = l := if_pos h
theorem FN {l : List Int} {x : Int} (h : l.contains x = false) : yj l x = l ++ [x] := if_neg (by rw [h]; simp)
theorem Ia {l : List Int} {x y : Int} : y ∈ yj l x ↔ y ∈ l \/ y = x := by
  cases h : l.contains x
  · rw [FN h]; simp
  · rw [EW h]
    exact ⟨Or.inl, fun g => g.elim id fun e => by rw [e]; exact List.contains_iff_mem.1 h⟩
theorem Lu {l : List Int} {x : Int} (h : l.Nodup) : (yj l x).Nodup := by
  cases e : l.contains x
  · rw [FN e]
    refine List.nodup_append.2 ⟨h, by simp, fun a ha b hb => ?_⟩
    simp only [List.mem_singleton] at hb
    rintro rfl
    rw [hb] at ha
    rw [List.contains_iff_mem.2 ha] at e; cases e
  · rw [EW e]; exact h
theorem VY (l : List Int) (x : Int) : (yj l x).length <= l.length + 1 := by
  cases h : l.contains x
  · rw [FN h]; simp
  · rw [EW h]; omega
theorem oq (l : List Int) (x : Int) : jK (lu l) x (.one (.g (.bool true))) = lu (yj l x) /\ lD l.length (lu l) x = (yj l x).length := by
  cases h : l.contains x
  · rw [FN h, Yq]; exact ⟨rfl, by rw [aad h]; simp⟩
  · rw [EW h]
    refine ⟨?_, by unfold lD; rw [FP h]; rfl⟩
    funext j
    unfold jK
    by_cases e : j = x
    · rw [if_pos e, e, FP h]
    · rw [if_neg e]
theorem ab3 (l : List Int) (x : Int) : gq l.length (zL l) x = l.contains x := by
  cases h : l.contains x
  · refine decide_eq_false fun ⟨i, h1, h2⟩ => ?_
    have : x ∈ l := by rw [<- h2]; exact Oe h1
    rw [List.contains_iff_mem.2 this] at h; cases h
  · obtain ⟨i, h1, h2⟩ := List.getElem_of_mem (List.contains_iff_mem.1 h)
    exact decide_eq_true ⟨i, h1, by unfold zL; simp [List.getD, h1, h2]⟩
def msP (s : aH) (n : Nat) (N : Nat -> ah) (x : Int) : Bool := !gq s.q s.dn x && !knB n N s.ch x
def Nq (s : aH) (n : Nat) (N : Nat -> ah) (a : Nat -> Int) (l : List Int) : Nat -> List Int
  | 0 => l
  | k + 1 => if msP s n N (a k) = true then yj (Nq s n N a l k) (a k) else Nq s n N a l k
def Ai (s : aH) (n : Nat) (N : Nat -> ah) : Nat -> List Int
  | 0 => []
  | i + 1 => if nJ s (N i) = true then Nq s n N ((N i).p (jO (N i) s.ch)).a (Ai s n N i) ((N i).p (jO (N i) s.ch)).q else Ai s n N i
def Lr (l : List Int) : List Int := l.mergeSort fun x y => decide (x <= y)
def msL (s : aH) (n : Nat) (N : Nat -> ah) : List Int := Lr (Ai s n N n)
theorem jY (s : aH) (n : Nat) (N : Nat -> ah) (a : Nat -> Int) (l : List Int) : Nq s n N a l 0 = l := rfl
theorem jX (s : aH) (n : Nat) (N : Nat -> ah) : Ai s n N 0 = [] := rfl
theorem VF {s : aH} {n : Nat} {N : Nat -> ah} {a : Nat -> Int} {l : List Int} {k : Nat} (h : msP s n N (a k) = true) : Nq s n N a l (k + 1) = yj (Nq s n N a l k) (a k) := by show (if _ then _ else _) = _; rw [if_pos h]
theorem YC {s : aH} {n : Nat} {N : Nat -> ah} {a : Nat -> Int} {l : List Int} {k : Nat} (h : msP s n N (a k) = false) : Nq s n N a l (k + 1) = Nq s n N a l k := by show (if _ then _ else _) = _; rw [if_neg (by rw [h]; simp)]
theorem aav {s : aH} {n : Nat} {N : Nat -> ah} {i : Nat} (h : nJ s (N i) = true) : Ai s n N (i + 1) = Nq s n N ((N i).p (jO (N i) s.ch)).a (Ai s n N i) ((N i).p (jO (N i) s.ch)).q := by show (if _ then _ else _) = _; rw [if_pos h]
theorem YM {s : aH} {n : Nat} {N : Nat -> ah} {i : Nat} (h : nJ s (N i) = false) : Ai s n N (i + 1) = Ai s n N i := by show (if _ then _ else _) = _; rw [if_neg (by rw [h]; simp)]
theorem NC (s : aH) (n : Nat) (N : Nat -> ah) (a : Nat -> Int) (l : List Int) : ∀ k, (Nq s n N a l k).length <= l.length + k
  | 0 => Nat.le_refl _
  | k + 1 => by
    have ih := NC s n N a l k
    cases h : msP s n N (a k)
    · rw [YC h]; omega
    · rw [VF h]; have := VY (Nq s n N a l k) (a k); omega
theorem Eh {s : aH} {n : Nat} {N : Nat -> ah} {a : Nat -> Int} {l : List Int} (hl : l.Nodup) : ∀ k, (Nq s n N a l k).Nodup
  | 0 => hl
  | k + 1 => by
    have ih := Eh (s := s) (n := n) (N := N) (a := a) hl k
    cases h : msP s n N (a k)
    · rw [YC h]; exact ih
    · rw [VF h]; exact Lu ih
theorem nU (s : aH) (n : Nat) (N : Nat -> ah) : ∀ i, (Ai s n N i).Nodup
  | 0 => List.nodup_nil
  | i + 1 => by
    cases h : nJ s (N i)
    · rw [YM h]; exact nU s n N i
    · rw [aav h]; exact Eh (nU s n N i) _
theorem MC {s : aH} {N : ah} (h : nJ s N = true) : iQ N s.ch = true := by
  unfold nJ kD at h; simp only [Bool.and_eq_true] at h; exact h.1.2
theorem Xj {N : ah} {ch : Int} (h : iQ N ch = true) (hb : gD N = true) : (N.p (jO N ch)).q <= 100 := by
  have h1 := (of_decide_eq_true hb).2 (jO N ch) (of_decide_eq_true h)
  exact (of_decide_eq_true h1.2).1.2.1
theorem Pm {s : aH} {n : Nat} {N : Nat -> ah} (hb : ∀ i, i < n -> gD (N i) = true) : ∀ i, i <= n -> (Ai s n N i).length <= 100 * i
  | 0, _ => Nat.le_refl _
  | i + 1, hi => by
    have ih := Pm hb (s := s) i (by omega)
    cases h : nJ s (N i)
    · rw [YM h]; omega
    · rw [aav h]
      have h1 := NC s n N ((N i).p (jO (N i) s.ch)).a (Ai s n N i) ((N i).p (jO (N i) s.ch)).q
      have h2 := Xj (MC h) (hb i (by omega))
      omega
theorem Mi {a b : List Int} (h : a.Perm b) (hs : a.Pairwise (fun x y => x <= y)) : a = Lr b := by
  refine (h.trans (List.mergeSort_perm b _).symm).eq_of_pairwise (le := fun x y => decide (x <= y)) (fun x y _ _ h1 h2 => ?_) (hs.imp fun h => decide_eq_true h) (List.pairwise_mergeSort (by intro a b c; simp only [decide_eq_true_eq]; omega) (by intro a b; simp only [Bool.or_eq_true, decide_eq_true_eq]; omega) _)
  have h1 := of_decide_eq_true h1; have h2 := of_decide_eq_true h2; omega
theorem abJ (l : List Int) : (Lr l).length = l.length := List.length_mergeSort l
end Go.Proofs.YtcfechepbamhkaaGreat
set_option maxRecDepth 100000
set_option maxHeartbeats 4000000
namespace Go.Proofs.YtcfechepbamhkaaGreat
open Go.RowKit Go.Sea
open Nat renaming reduceAdd -> xA, reduceLT -> xL, reduceLeDiff -> xD, reduceEqDiff -> xE, reduceMul -> xM, reduceSub -> xS, reduceBEq -> xB
theorem Yc : aN Tryz.prog 124 = true := by kernel_rfl
theorem aej : aN Tryz.prog 75 = true := by kernel_rfl
theorem aeC : aN Tryz.prog 76 = true := by kernel_rfl
attribute [go_sem] Yc aej aeC
def stU (f : aj) (ch : Int) : Int := if jL f ch = 0 then UpV (f.S (jA f ch)) f.n f.N else 0
def DU (f : aj) (ch : Int) : List Int := if jL f ch = 0 then msL (f.S (jA f ch)) f.n f.N else []
theorem anC {f : aj} {ch : Int} (h : jL f ch ≠ 0) : stU f ch = 0 /\ DU f ch = [] := by unfold stU DU; rw [if_neg h, if_neg h]; exact ⟨rfl, rfl⟩
theorem agL {f : aj} {ch : Int} (h : jL f ch = 0) : stU f ch = UpV (f.S (jA f ch)) f.n f.N /\ DU f ch = msL (f.S (jA f ch)) f.n f.N := by unfold stU DU; rw [if_pos h, if_pos h]; exact ⟨rfl, rfl⟩
theorem al7 {f : aj} {ch : Int} (h : jL f ch = 0) : UpE (f.S (jA f ch)) f.n f.N = 0 := by
  have ha := AY h
  unfold UpE QG
  rw [((iB ha.2.2.2).2.1 _ ha.2.1).1, (iB ha.2.2.2).2.2]; rfl
end Go.Proofs.YtcfechepbamhkaaGreat
set_option maxRecDepth 100000
set_option maxHeartbeats 4000000
namespace Go.Proofs.YtcfechepbamhkaaGreat
open Go.RowKit Go.Sea
open Nat renaming reduceAdd -> xA, reduceLT -> xL, reduceLeDiff -> xD, reduceEqDiff -> xE, reduceMul -> xM, reduceSub -> xS, reduceBEq -> xB
theorem ZK : aN Tryz.prog 122 = true := by kernel_rfl
theorem OO : aN Tryz.prog 71 = true := by kernel_rfl
theorem Nw : aN Tryz.prog 73 = true := by kernel_rfl
theorem Yk : Hu Tryz.prog 112 = some 4 := by kernel_rfl
theorem ahK : lQ Tryz.prog 112 = some (false, 1) := by kernel_rfl
theorem aiH : fV Tryz.prog 112 = some [.iv (.g (.map none))] := by kernel_rfl
attribute [go_sem] OO Nw Yk ahK aiH
def K6 (N : Nat -> ah) (ch : Int) : Nat -> List Int
  | 0 => []
  | i + 1 => if kD (N i) ch = true then yj (K6 N ch i) (N i).nu else K6 N ch i
def thB (l : List Int) (a : Nat -> Int) : Nat -> List Int
  | 0 => l
  | j + 1 => yj (thB l a j) (a j)
theorem jV (N : Nat -> ah) (ch : Int) : K6 N ch 0 = [] := rfl
theorem afA {N : Nat -> ah} {ch : Int} {i : Nat} (h : kD (N i) ch = true) : K6 N ch (i + 1) = yj (K6 N ch i) (N i).nu := by show (if _ then _ else _) = _; rw [if_pos h]
theorem afW {N : Nat -> ah} {ch : Int} {i : Nat} (h : kD (N i) ch = false) : K6 N ch (i + 1) = K6 N ch i := by show (if _ then _ else _) = _; rw [if_neg (by rw [h]; simp)]
theorem jR (l : List Int) (a : Nat -> Int) : thB l a 0 = l := rfl
theorem afq (l : List Int) (a : Nat -> Int) (j : Nat) : thB l a (j + 1) = yj (thB l a j) (a j) := rfl
theorem Pt {N : Nat -> ah} {ch x : Int} : ∀ {i : Nat}, x ∈ K6 N ch i ↔ ∃ j, j < i /\ (N j).nu = x /\ kD (N j) ch = true
  | 0 => ⟨fun h => absurd h List.not_mem_nil, fun ⟨j, h, _⟩ => absurd h (Nat.not_lt_zero j)⟩
  | i + 1 => by
    have ih := @Pt N ch x i
    cases h : kD (N i) ch
    · rw [afW h, ih]
      exact ⟨fun ⟨j, h1, h2⟩ => ⟨j, by omega, h2⟩, fun ⟨j, h1, h2⟩ => ⟨j, by
        by_cases e : j = i
        · rw [e, h] at h2; exact absurd h2.2 (by simp)
        · omega, h2⟩⟩
    · rw [afA h, Ia, ih]
      constructor
      · rintro (⟨j, h1, h2⟩ | e)
        · exact ⟨j, by omega, h2⟩
        · exact ⟨i, by omega, e.symm, h⟩
      · rintro ⟨j, h1, h2⟩
        by_cases e : j = i
        · subst e; exact Or.inr h2.1.symm
        · exact Or.inl ⟨j, by omega, h2⟩
theorem Nr {l : List Int} {a : Nat -> Int} {x : Int} : ∀ {q : Nat}, x ∈ thB l a q ↔ x ∈ l \/ ∃ j, j < q /\ a j = x
  | 0 => ⟨Or.inl, fun h => h.elim id fun ⟨j, h, _⟩ => absurd h (Nat.not_lt_zero j)⟩
  | q + 1 => by
    rw [afq, Ia, @Nr l a x q]
    constructor
    · rintro ((h | ⟨j, h1, h2⟩) | h)
      · exact Or.inl h
      · exact Or.inr ⟨j, by omega, h2⟩
      · exact Or.inr ⟨q, by omega, h.symm⟩
    · rintro (h | ⟨j, h1, h2⟩)
      · exact Or.inl (Or.inl h)
      · by_cases e : j = q
        · subst e; exact Or.inr h2.symm
        · exact Or.inl (Or.inr ⟨j, by omega, h2⟩)
theorem afx {s : aH} {n : Nat} {N : Nat -> ah} {ch x : Int} (hc : s.ch = ch) : msP s n N x = !(thB (K6 N ch n) s.dn s.q).contains x := by
  have h : (thB (K6 N ch n) s.dn s.q).contains x = (knB n N ch x || gq s.q s.dn x) := by
    rw [Bool.eq_iff_iff, List.contains_iff_mem, Bool.or_eq_true]
    rw [Nr, Pt]
    refine or_congr ?_ ?_
    · unfold knB; simp only [List.any_eq_true, List.mem_range, Bool.and_eq_true, decide_eq_true_eq]
    · unfold gq; simp only [decide_eq_true_eq]
  rw [h]; unfold msP; rw [hc]
  cases knB n N ch x <;> cases gq s.q s.dn x <;> rfl
theorem Nh {l ks : List Int} (hl : l.Nodup) (hn : ks.Nodup) (hk : ∀ x, x ∈ ks -> lu l x ≠ none) (ha : ∀ x, (lu l x).isSome = true -> x ∈ ks) : ks.reverse.mergeSort (fun x y => decide (x <= y)) = Lr l /\ ks.length = l.length := by
  have hm : ∀ x, x ∈ ks ↔ x ∈ l := fun x => by
    constructor
    · intro h
      have := hk x h
      cases e : l.contains x
      · exact absurd (Fw e) this
      · exact List.contains_iff_mem.1 e
    · intro h
      exact ha x (by rw [FP (List.contains_iff_mem.2 h)]; rfl)
  have hp : ks.Perm l := (List.perm_ext_iff_of_nodup hn hl).2 hm
  refine ⟨?_, hp.length_eq⟩
  refine Mi (((List.mergeSort_perm _ _).trans (List.reverse_perm ks)).trans hp) ((List.pairwise_mergeSort (le := fun x y => decide (x <= y)) (by intro a b c; simp only [decide_eq_true_eq]; omega) (by intro a b; simp only [Bool.or_eq_true, decide_eq_true_eq]; omega) _).imp fun h => of_decide_eq_true h)
theorem adz {l ks : List Int} (hl : l.Nodup) (hn : ks.Nodup) (hk : ∀ x, x ∈ ks -> lu l x ≠ none) {kk : Int} {yy : PT} (hy : lu l kk = some yy) (hnn : ¬ kk ∈ ks) : (kk :: ks).Nodup /\ (∀ x, x ∈ kk :: ks -> lu l x ≠ none) /\ ks.length + 1 <= l.length := by
  have h1 : (kk :: ks).Nodup := List.nodup_cons.2 ⟨hnn, hn⟩
  have h2 : ∀ x, x ∈ kk :: ks -> lu l x ≠ none := fun x hx => by
    rcases List.mem_cons.1 hx with e | e
    · rw [e, hy]; simp
    · exact hk x e
  refine ⟨h1, h2, ?_⟩
  have := tC h1 (m := l) fun x hx => by
    cases e : l.contains x
    · exact absurd (Fw e) (h2 x hx)
    · exact List.contains_iff_mem.1 e
  simpa using this
theorem ahU {l ks : List Int} (hl : l.Nodup) (hll : l.length <= 100000) (hn : ks.Nodup) (hk : ∀ x, x ∈ ks -> lu l x ≠ none) (ha : ∀ x, (lu l x).isSome = true -> x ∈ ks) (i : Nat) {H : List (Option (List CV))} (hH : hget H i = some (dX ks.reverse)) : iH Tryz.prog 121 [.one (.slc i 0 ks.length 1)] H (.tup []) (hset H i (dX (Lr l))) := by
  have h0 := Nh hl hn hk ha
  have h1 := Wm ks.reverse (by rw [List.length_reverse]; omega) i H hH
  rw [List.length_reverse, h0.1] at h1
  exact h1
theorem akn (f : aj) (hf : f.Ok) (ch : Int) (h0 : jL f ch ≠ 0) : aA Tryz.prog 29 [jJ f, .one (.g (.int .i64 ch))] (.tup [.one (.g (.int .i64 (stU f ch))), .one (.lst 1 (DU f ch).length (bn (zL (DU f ch)))), .one (.g (.int .i64 (jL f ch)))]) := by
  refine ak Tryz.func29 rfl (by rw [Tryz.ntmps29]; simp) ?_
  simp only [Tryz.ntmps29, zM, PT.tv, au, Nat.zero_add, Nat.reduceAdd]
  repeat' (first
 | ((with_reducible show AW _ _ _ _); first
 | (with_reducible first | refine aS (fun K hK => ?_) | refine aT ?_ | refine aC ?_)
 | (first
 | (with_reducible first | refine aP 0 [0,1,66] ?_ | refine aP 1 [2,3,66] ?_ | refine aP 2 [2,3,7,8,66] ?_ | refine aP 3 [8] ?_)))
 | ((first | (with_reducible refine And.intro ?_ ?_) | (with_reducible refine Need.mk ?_)); focus (exact True.intro))
 | (with_reducible refine aJ ?_)
 | ((with_reducible show bL _ _ _ _ _ _); first
 | ((with_reducible refine aM ?_ ?_) <;> (intro hc; (try simp only [zB, zC, reduceCtorEq] at hc); (try (exfalso; contradiction)))))
 | ((with_reducible show aQ _ _ _ _ _ _ _ _ _ _); first
 | (refine aF (k := 45) kG (oD f hf ch) ?_ ?_))
 | ((fail_if_success (with_reducible show AW _ _ _ _)); simp (maxSteps := 2000000) only [go_sem, reduceIte, reduceCtorEq, xA, xL, xD, xE, xM, xS, xB, Tryz.f29, bR, bP, bV, bU, bX, bY, bQ, bS, bW, bT, bC, bB, bF, bn, h0])
 | ((with_reducible refine hK _ ?_); clear hK K))
  all_goals (have e := anC h0; rw [e.1, e.2]; (repeat' (first | exact rfl | (with_reducible refine And.intro ?_ ?_))))
theorem ak6 (f : aj) (hf : f.Ok) (ch : Int) (h0 : jL f ch = 0) : aA Tryz.prog 29 [jJ f, .one (.g (.int .i64 ch))] (.tup [.one (.g (.int .i64 (stU f ch))), .one (.lst 1 (DU f ch).length (bn (zL (DU f ch)))), .one (.g (.int .i64 (jL f ch)))]) := by
  have hn := hf.n
  have hk := hf.k
  have ha := AY h0
  have ha1 := ha.1
  have ha2 := ha.2.1
  have hn2 := (mM (iB ha.2.2.2).2.2).1
  have hnt := (iB ha.2.2.2).2.2
  have hnb := fun i hi => ((mM hnt).2 i hi).1
  have hso := hf.s _ ha2
  have hup := al7 h0
  have hch := ha.2.2.1
  have hqq : (f.S (jA f ch)).q <= 200 := Ar ((iB ha.2.2.2).2.1 _ ha2).1
  have hrl := fun i hi => Pm (s := f.S (jA f ch)) hnb i hi
  have mk1 : True := trivial
  have hps : True := trivial
  have hlk : True := trivial
  have mk2 : True := trivial
  have hrn : (Ai (f.S (jA f ch)) f.n f.N f.n).length <= 20000 := by have := hrl f.n (Nat.le_refl _); omega
  refine ak Tryz.func29 rfl (by rw [Tryz.ntmps29]; simp) ?_
  simp only [Tryz.ntmps29, zM, PT.tv, au, Nat.zero_add, Nat.reduceAdd]
  repeat' (first
 | ((refine iV ?_ ?_) <;> (intro hc; (try rw [hc]); (try simp only [zB, zC, reduceCtorEq] at hc); ((try (clear mk1; have hwt : nJ (f.S (jA f ch)) (f.N i) = true := Vv (by assumption); have hpb : iQ (f.N i) ch = true := hch ▸ MC hwt; have hpj := of_decide_eq_true hpb; have hps : jr (f.N i) ch = ((f.N i).p (jO (f.N i) ch)) := Fv hpb; have hpq : ((f.N i).p (jO (f.N i) ch)).q <= 100 := Xj hpb (hnb i (by omega)); have hPo := (hf.nn i (by omega)).p _ hpj)); (try (have e0 : ((f.N i).p (jO (f.N i) ch)).q = k := (by omega); subst e0)); (try (have e0 : f.n = i := (by omega); subst e0)); (try (have e0 : (f.S (jA f ch)).q = j := (by omega); subst e0))); (try (exfalso; contradiction))))
 | (clear mk2; have hkm := adz (nU _ _ _ _) hnd hks hyy hnn)
 | ((with_reducible show AW _ _ _ _); first
 | (with_reducible first | refine aS (fun K hK => ?_) | refine aI ?_ | refine aX ?_ | refine aT ?_ | refine aC ?_ | refine aB ?_)
 | ((refine eT (k := 91) rfl Tryz.func91 rfl zX (by rw [Tryz.ntmps91]; simp) ?_ ?_ (fun l hlne A B hA hB => ?_)); (focus (simp (maxSteps := 2000000) only [go_sem, reduceIte, reduceCtorEq, xA, xL, xD, xE, xM, xS, xB, Tryz.f29, Tryz.f91, Tryz.f122, Tryz.f46, Tryz.f73, Tryz.f72, Tryz.f120, Tryz.f157, bR, bP, bV, bU, bX, bY, bQ, bS, bW, bT, bC, bB, bF, bn, h0, ha1, hps, hlk, hup, jV, jR, jX, jY, eU, bg, List.length_reverse, bH, dh, maxLen]; try exact True.intro)); (focus (simp (maxSteps := 2000000) only [go_sem, reduceIte, reduceCtorEq, xA, xL, xD, xE, xM, xS, xB, Tryz.f29, Tryz.f91, Tryz.f122, Tryz.f46, Tryz.f73, Tryz.f72, Tryz.f120, Tryz.f157, bR, bP, bV, bU, bX, bY, bQ, bS, bW, bT, bC, bB, bF, bn, h0, ha1, hps, hlk, hup, jV, jR, jX, jY, eU, bg, List.length_reverse, bH, dh, maxLen]; try exact True.intro)); simp only [Tryz.ntmps91, List.map_cons, List.map_nil, LV.tv, au, yV, Nat.zero_add, Nat.reduceAdd]; clear hlne)
 | ((refine eT (k := 122) rfl Tryz.func122 rfl ZK (by rw [Tryz.ntmps122]; simp) ?_ ?_ (fun l hlne A B hA hB => ?_)); (focus (simp (maxSteps := 2000000) only [go_sem, reduceIte, reduceCtorEq, xA, xL, xD, xE, xM, xS, xB, Tryz.f29, Tryz.f91, Tryz.f122, Tryz.f46, Tryz.f73, Tryz.f72, Tryz.f120, Tryz.f157, bR, bP, bV, bU, bX, bY, bQ, bS, bW, bT, bC, bB, bF, bn, h0, ha1, hps, hlk, hup, jV, jR, jX, jY, eU, bg, List.length_reverse, bH, dh, maxLen]; try exact True.intro)); (focus (simp (maxSteps := 2000000) only [go_sem, reduceIte, reduceCtorEq, xA, xL, xD, xE, xM, xS, xB, Tryz.f29, Tryz.f91, Tryz.f122, Tryz.f46, Tryz.f73, Tryz.f72, Tryz.f120, Tryz.f157, bR, bP, bV, bU, bX, bY, bQ, bS, bW, bT, bC, bB, bF, bn, h0, ha1, hps, hlk, hup, jV, jR, jX, jY, eU, bg, List.length_reverse, bH, dh, maxLen]; try exact True.intro)); simp only [Tryz.ntmps122, List.map_cons, List.map_nil, LV.tv, au, yV, Nat.zero_add, Nat.reduceAdd]; clear hlne)
 | (with_reducible refine u7 (by assumption) ?_)
 | (first
 | (with_reducible first | refine aP 0 [0,1,2,7,66] ?_ | refine aP (ops := #[⟨some 23, _, _, _, _, _⟩, _, _, _, _, _, _, _]) 1 [2,3,66] ?_ | refine aP (ops := #[⟨some 9, _, _, _, _, _⟩]) 1 [0,2,6,7,8] ?_ | refine aP (ops := #[⟨some 6, _, _, _, _, _⟩, _]) 1 [0,5] ?_ | refine aP (ops := #[⟨some 5, _, _, _, _, _⟩, _]) 1 [2,3] ?_ | refine aP (ops := #[⟨some 3, _, _, _, _, _⟩, _]) 1 [1] ?_ | refine aP (ops := #[⟨some 4, _, _, _, _, _⟩, _, _]) 1 [0] ?_ | refine aP (ops := #[⟨some 3, _, _, _, _, _⟩, _, _]) 1 [0] ?_ | refine aP (ops := #[⟨some 6, _, _, _, _, _⟩]) 1 [1,2,7] ?_ | refine aP (ops := #[⟨some 28, _, _, _, _, _⟩, _]) 2 [2,3,7,8,66] ?_ | refine aP (ops := #[⟨some 10, _, _, _, _, _⟩, _, _, _]) 2 [0,2,6,7,8] ?_ | refine aP (ops := #[⟨some 8, _, _, _, _, _⟩, _, _]) 2 [0,5] ?_ | refine aP (ops := #[⟨some 6, _, _, _, _, _⟩, _]) 2 [3] ?_ | refine aP (ops := #[⟨some 5, _, _, _, _, _⟩]) 2 [2,7] ?_ | refine aP (ops := #[⟨some 12, _, _, _, _, _⟩, _, _, _, _, _, _, _, _, _, _, _, _, _, _, _, _, _]) 3 [0,2,5,6,7,8] ?_ | refine aP (ops := #[⟨some 10, _, _, _, _, _⟩, _, _, _]) 3 [0,3,5] ?_ | refine aP (ops := #[⟨some 8, _, _, _, _, _⟩, _]) 3 [3] ?_ | refine aP (ops := #[⟨some 8, _, _, _, _, _⟩, _, _, _, _]) 3 [2,5,7] ?_ | refine aP (ops := #[⟨some 31, _, _, _, _, _⟩, _, _, _, _, _, _]) 4 [2,3,7,66] ?_ | refine aP (ops := #[⟨some 30, _, _, _, _, _⟩, _]) 4 [0,2,6,7,8] ?_ | refine aP (ops := #[⟨some 12, _, _, _, _, _⟩, _]) 4 [2] ?_ | refine aP 5 [2,3,9,66] ?_ | refine aP 6 [2,3,9,10,66] ?_ | refine aP 7 [2,3,9,10,38,39,40,66] ?_ | refine aP 8 [2,3,9,10,38,39,40,66] ?_ | refine aP 9 [2,3,9,10,12,38,39,40,66] ?_ | refine aP 10 [2,3,9,10,12,38,39,40,66] ?_ | refine aP 11 [2,3,9,10,38,39,40,66] ?_ | refine aP 12 [2,3,9,10,66] ?_ | refine aP 13 [2,3,9,10,52,53,54,66] ?_ | refine aP 14 [2,3,9,10,52,53,54,66] ?_ | refine aP 15 [2,3,9,10,14,52,53,54,66] ?_ | refine aP 16 [2,3,9,10,52,53,54,66] ?_ | refine aP 17 [2,3,9,10,66] ?_ | refine aP 18 [2,3,9,10,15,66] ?_ | refine aP 19 [2,3,9,10,15,66] ?_ | refine aP 20 [2,3,9,10,15,16,66] ?_ | refine aP 21 [2,3,9,10,15,17,66] ?_ | refine aP 22 [2,3,9,10,15,66,74,75,76] ?_ | refine aP 23 [2,3,9,10,15,66,74,75,76] ?_ | refine aP 24 [2,3,9,10,15,20,66,74,75,76] ?_ | refine aP 25 [2,3,9,10,15,20,66,74,75,76] ?_ | refine aP 26 [2,3,9,10,15,66,74,75,76] ?_ | refine aP 27 [2,9,15] ?_ | refine aP 28 [8,15,21] ?_))
 | ((with_reducible show AW _ (Code.loop _) _ _); first
 | ((with_reducible refine aL (c := (Code.seq (Code.region 7 _ _) _)) (ι := Nat) [2,3,9,10,38,39,66] (fun i => [(40, iA .i64 (i : Int))]) (fun i => [(3, [.mi none (K6 f.N ch i).length (lu (K6 f.N ch i))])]) (fun i => i <= f.n) (fun i => f.n - i) 0 ?lg7 ?l17 ?l27 ?li7 ?lr7); (case' lg7 => rintro i _); (case' li7 => try (omega)); (case' lr7 => rintro i hi KR hR7; simp only [bI, dI, hset, lk, if_true, if_false, xE, reduceIte, zN, bR, bP, bV, bU, bX, bY, bQ, bS, bW, bT, bC, bB, bF, h0, ha1, hps, hlk, hup, jV, jR, jX, jY, eU, bg, List.length_reverse, bH, dh, maxLen]))
 | ((with_reducible refine aL (c := (Code.seq (Code.region 13 _ _) _)) (ι := Nat) [2,3,9,10,52,53,66] (fun j => [(54, iA .i64 (j : Int))]) (fun j => [(3, [.mi none (thB (K6 f.N ch f.n) (f.S (jA f ch)).dn j).length (lu (thB (K6 f.N ch f.n) (f.S (jA f ch)).dn j))])]) (fun j => j <= (f.S (jA f ch)).q) (fun j => (f.S (jA f ch)).q - j) 0 ?lg13 ?l113 ?l213 ?li13 ?lr13); (case' lg13 => rintro j _); (case' li13 => try (omega)); (case' lr13 => rintro j hj KR hR13; simp only [bI, dI, hset, lk, if_true, if_false, xE, reduceIte, zN, bR, bP, bV, bU, bX, bY, bQ, bS, bW, bT, bC, bB, bF, h0, ha1, hps, hlk, hup, jV, jR, jX, jY, eU, bg, List.length_reverse, bH, dh, maxLen]))
 | ((with_reducible refine aL (c := (Code.seq (Code.region 22 _ _) _)) (ι := Nat) [2,3,9,10,15,66,74,75] (fun k => [(76, iA .i64 (k : Int))]) (fun k => [(5, [.mi none (Nq (f.S (jA f ch)) f.n f.N ((f.N i).p (jO (f.N i) ch)).a (Ai (f.S (jA f ch)) f.n f.N i) k).length (lu (Nq (f.S (jA f ch)) f.n f.N ((f.N i).p (jO (f.N i) ch)).a (Ai (f.S (jA f ch)) f.n f.N i) k))])]) (fun k => k <= ((f.N i).p (jO (f.N i) ch)).q) (fun k => ((f.N i).p (jO (f.N i) ch)).q - k) 0 ?lg22 ?l122 ?l222 ?li22 ?lr22); (case' lg22 => rintro k _); (case' li22 => try (omega)); (case' lr22 => rintro k hk KR hR22; cases hth : (thB (K6 f.N ch f.n) (f.S (jA f ch)).dn (f.S (jA f ch)).q).contains (((f.N i).p (jO (f.N i) ch)).a k); all_goals first | (have hlk := Fw hth) | (have hlk := FP hth); simp only [bI, dI, hset, lk, if_true, if_false, xE, reduceIte, zN, bR, bP, bV, bU, bX, bY, bQ, bS, bW, bT, bC, bB, bF, h0, ha1, hps, hlk, hup, jV, jR, jX, jY, eU, bg, List.length_reverse, bH, dh, maxLen]))))
 | ((first | (with_reducible refine And.intro ?_ ?_) | (with_reducible refine Need.mk ?_)); focus (first | exact True.intro | omega | (intro _; (with_reducible assumption))))
 | (with_reducible refine aJ ?_)
 | ((with_reducible show bL _ _ _ _ _ _); first
 | ((with_reducible refine aM ?_ ?_) <;> (intro hc; (try simp only [zB, zC, reduceCtorEq] at hc); ((try (clear mk1; have hwt : nJ (f.S (jA f ch)) (f.N i) = true := Vv (by assumption); have hpb : iQ (f.N i) ch = true := hch ▸ MC hwt; have hpj := of_decide_eq_true hpb; have hps : jr (f.N i) ch = ((f.N i).p (jO (f.N i) ch)) := Fv hpb; have hpq : ((f.N i).p (jO (f.N i) ch)).q <= 100 := Xj hpb (hnb i (by omega)); have hPo := (hf.nn i (by omega)).p _ hpj)); (try (have e0 : ((f.N i).p (jO (f.N i) ch)).q = k := (by omega); subst e0)); (try (have e0 : f.n = i := (by omega); subst e0)); (try (have e0 : (f.S (jA f ch)).q = j := (by omega); subst e0))); (try (exfalso; contradiction)))))
 | ((with_reducible show aQ _ _ _ _ _ _ _ _ _ _); first
 | (refine aF (k := 45) kG (oD f hf ch) ?_ ?_)
 | (refine aF (k := 70) qG (DF (f.N i) ch (hf.nn i (by omega))) ?_ ?_)
 | (refine aF (k := 70) qG (DF (f.N i) (f.S (jA f ch)).ch (hf.nn i (by omega))) ?_ ?_)
 | (refine aF (k := 60) zh (Fy (f.N i) ch (hf.nn i (by omega))) ?_ ?_)
 | (refine aF (k := 71) OO (anE (f.S (jA f ch)) f.n f.N hso hf.n hf.nn) ?_ ?_)
 | (refine nK (k := 121) Ao (ahU (nU _ _ _ _) (by have := hrl f.n (Nat.le_refl _); omega) hnd hks hall 12 rfl) ?_ ?_)
 | ((refine dA (k := 46) Tryz.func46 rfl tJ (by rw [Tryz.ntmps46]; simp) ?_ ?_ (fun K hK => ?_)); (focus (exact True.intro)); (focus ((simp [jF]; done))); simp only [Tryz.ntmps46, List.map_cons, List.map_nil, List.nil_append, List.cons_append, List.append_nil, LV.tv, au, Nat.zero_add, Nat.reduceAdd])
 | ((refine dA (k := 73) Tryz.func73 rfl Nw (by rw [Tryz.ntmps73]; simp) ?_ ?_ (fun K hK => ?_)); (focus (exact True.intro)); (focus ((simp [jF]; done))); simp only [Tryz.ntmps73, List.map_cons, List.map_nil, List.nil_append, List.cons_append, List.append_nil, LV.tv, au, Nat.zero_add, Nat.reduceAdd])
 | ((refine dA (k := 72) Tryz.func72 rfl Gm (by rw [Tryz.ntmps72]; simp) ?_ ?_ (fun K hK => ?_)); (focus (exact True.intro)); (focus ((simp [jF]; done))); simp only [Tryz.ntmps72, List.map_cons, List.map_nil, List.nil_append, List.cons_append, List.append_nil, LV.tv, au, Nat.zero_add, Nat.reduceAdd])
 | ((refine dA (k := 120) Tryz.func120 rfl CZ (by rw [Tryz.ntmps120]; simp) ?_ ?_ (fun K hK => ?_)); (focus (exact True.intro)); (focus ((simp [jF]; done))); simp only [Tryz.ntmps120, List.map_cons, List.map_nil, List.nil_append, List.cons_append, List.append_nil, LV.tv, au, Nat.zero_add, Nat.reduceAdd])
 | ((refine dA (k := 157) Tryz.func157 rfl AU (by rw [Tryz.ntmps157]; simp) ?_ ?_ (fun K hK => ?_)); (focus (exact True.intro)); (focus ((simp [jF]; done))); simp only [Tryz.ntmps157, List.map_cons, List.map_nil, List.nil_append, List.cons_append, List.append_nil, LV.tv, au, Nat.zero_add, Nat.reduceAdd]))
 | ((with_reducible show bG _ _ _ _ _ _ _ _ _ _); first
 | (refine aO (k := 92) uK (fun hg => Hf (f.S (jA f ch)).q (f.S (jA f ch)).dn (f.N i).nu hso.q) ?_ ?_))
 | ((with_reducible refine hR7 _ (i + 1) ?_); (try clear hR7 KR))
 | ((with_reducible refine hR13 _ (j + 1) ?_); (try clear hR13 KR))
 | (((with_reducible show AW _ (Code.loop (Code.seq (Code.region 1 #[⟨some 9, _, _, _, _, _⟩] _) _)) _ _); with_reducible refine aL (c := (Code.seq (Code.region 1 _ _) _)) (ι := Nat) [0,2,6,7] (fun i => [(8, iA .i64 (i : Int))]) (fun i => [(5, [.mi none (Ai (f.S (jA f ch)) f.n f.N i).length (lu (Ai (f.S (jA f ch)) f.n f.N i))])]) (fun i => i <= f.n) (fun i => f.n - i) 0 ?lg1 ?l11 ?l21 ?li1 ?lr1); (case' lg1 => rintro i _); (case' li1 => try (omega)); (case' lr1 => rintro i hi KR hR1; simp only [bI, dI, hset, lk, if_true, if_false, xE, reduceIte, zN, bR, bP, bV, bU, bX, bY, bQ, bS, bW, bT, bC, bB, bF, h0, ha1, hps, hlk, hup, jV, jR, jX, jY, eU, bg, List.length_reverse, bH, dh, maxLen]))
 | ((with_reducible refine hR1 _ (i + 1) ?_); (try clear hR1 KR))
 | ((with_reducible refine hR22 _ (k + 1) ?_); (try clear hR22 KR))
 | (((with_reducible show AW _ (Code.loop (Code.seq (Code.region 1 #[⟨some 6, _, _, _, _, _⟩, _] _) _)) _ _); (with_reducible refine afH ?_); simp only [ddG, ddE, List.contains_cons, List.contains_nil, Nat.reduceBEq, Bool.or_false, Bool.false_or, Bool.or_true, Bool.true_or, if_true, if_false, Bool.false_eq_true, reduceIte]; with_reducible refine aL (c := (Code.seq (Code.region 1 _ _) _)) (ι := List Int) [0,5] (fun ks => []) (fun ks => [(10, [.slc 12 0 ks.length 1]), (12, dX ks.reverse), (11, [.mt 5 cc (fun q => q ∈ ks) ks.head?])]) (fun ks => ks.Nodup /\ ∀ x, x ∈ ks -> lu (Ai (f.S (jA f ch)) f.n f.N f.n) x ≠ none) (fun ks => (Ai (f.S (jA f ch)) f.n f.N f.n).length - ks.length) [] ?lg1k ?l11k ?l21k ?li1k ?lr1k); (case' lg1k => rintro ks _); (case' li1k => try (exact ⟨List.nodup_nil, fun x h => absurd h (List.not_mem_nil)⟩)); (case' lr1k => rintro ks ⟨hnd, hks⟩ KR hR1k; simp only [bI, dI, hset, lk, if_true, if_false, xE, reduceIte, zN, bR, bP, bV, bU, bX, bY, bQ, bS, bW, bT, bC, bB, bF, h0, ha1, hps, hlk, hup, jV, jR, jX, jY, eU, bg, List.length_reverse, bH, dh, maxLen]))
 | ((with_reducible refine hR1k _ (kk :: ks) ?_); (try clear hR1k KR))
 | ((with_reducible refine Told.mk ?_); simp only [go_sem, reduceIte, reduceCtorEq, xA, xL, xD, xE, xM, xS, xB, bR, bP, bV, bU, bX, bY, bQ, bS, bW, bT, bC, bB, bF, bn, h0, ha1, hps, hlk, hup, jV, jR, jX, jY, eU, bg, List.length_reverse, bH, dh, maxLen] <;> (first | (((try simp (disch := omega) only [aV, Int.natCast_add, Int.cast_ofNat_Int, and_true, true_and, and_self]); (repeat' (first | omega | rfl | (with_reducible refine And.intro ?_ ?_) | ((rw [afW (by assumption)]; exact Or.inl rfl)) | ((rw [afA (by assumption)]; exact Or.inr ⟨(oq _ _).2, fun k => by rw [(oq _ _).1]; exact oU _⟩)) | ((rw [afq]; exact Or.inr ⟨(oq _ _).2, fun k => by rw [(oq _ _).1]; exact oU _⟩)) | ((rw [YM (alv (by assumption))]; exact Or.inl rfl)) | ((rw [aav (by assumption), hch]; exact Or.inl rfl)) | ((rw [VF (by rw [afx hch, hth]; rfl)]; exact Or.inr ⟨(oq _ _).2, fun k => by rw [(oq _ _).1]; exact oU _⟩)) | ((rw [YC (by rw [afx hch, hth]; rfl)]; exact Or.inl rfl)))); done)) | (((try simp (disch := omega) only [aV, Int.natCast_add, Int.cast_ofNat_Int, and_true, true_and, and_self]); (repeat' (first | omega | rfl | (with_reducible refine And.intro ?_ ?_) | ((exact hkm.1)) | ((exact fun e => by rw [hyy] at e; cases e)) | ((exact kY rfl (iO _))))); done))))
 | ((with_reducible show kJ _ _ (Oper.mk _ (Op.range _ _) _ _ _ _) _ _ _); refine yL (by first | exact Yk) (by simp (maxSteps := 2000000) only [go_sem, reduceIte, reduceCtorEq, xA, xL, xD, xE, xM, xS, xB, Tryz.f29, Tryz.f91, Tryz.f122, Tryz.f46, Tryz.f73, Tryz.f72, Tryz.f120, Tryz.f157, bR, bP, bV, bU, bX, bY, bQ, bS, bW, bT, bC, bB, bF, bn, h0, ha1, hps, hlk, hup, jV, jR, jX, jY, eU, bg, List.length_reverse, bH, dh, maxLen]; rfl) (by simp (maxSteps := 2000000) only [go_sem, reduceIte, reduceCtorEq, xA, xL, xD, xE, xM, xS, xB, Tryz.f29, Tryz.f91, Tryz.f122, Tryz.f46, Tryz.f73, Tryz.f72, Tryz.f120, Tryz.f157, bR, bP, bV, bU, bX, bY, bQ, bS, bW, bT, bC, bB, bF, bn, h0, ha1, hps, hlk, hup, jV, jR, jX, jY, eU, bg, List.length_reverse, bH, dh, maxLen]; rfl) (fun cc => ?_))
 | ((with_reducible show kJ _ _ (Oper.mk _ (Op.next _ _) _ _ _ _) _ _ _); refine BZ (by simp (maxSteps := 2000000) only [go_sem, reduceIte, reduceCtorEq, xA, xL, xD, xE, xM, xS, xB, Tryz.f29, Tryz.f91, Tryz.f122, Tryz.f46, Tryz.f73, Tryz.f72, Tryz.f120, Tryz.f157, bR, bP, bV, bU, bX, bY, bQ, bS, bW, bT, bC, bB, bF, bn, h0, ha1, hps, hlk, hup, jV, jR, jX, jY, eU, bg, List.length_reverse, bH, dh, maxLen]; rfl) (by simp (maxSteps := 2000000) only [go_sem, reduceIte, reduceCtorEq, xA, xL, xD, xE, xM, xS, xB, Tryz.f29, Tryz.f91, Tryz.f122, Tryz.f46, Tryz.f73, Tryz.f72, Tryz.f120, Tryz.f157, bR, bP, bV, bU, bX, bY, bQ, bS, bW, bT, bC, bB, bF, bn, h0, ha1, hps, hlk, hup, jV, jR, jX, jY, eU, bg, List.length_reverse, bH, dh, maxLen]; rfl) (by simp (maxSteps := 2000000) only [go_sem, reduceIte, reduceCtorEq, xA, xL, xD, xE, xM, xS, xB, Tryz.f29, Tryz.f91, Tryz.f122, Tryz.f46, Tryz.f73, Tryz.f72, Tryz.f120, Tryz.f157, bR, bP, bV, bU, bX, bY, bQ, bS, bW, bT, bC, bB, bF, bn, h0, ha1, hps, hlk, hup, jV, jR, jX, jY, eU, bg, List.length_reverse, bH, dh, maxLen]; rfl) (fun hall => ?_) (fun kk yy hyy hnn => ?_))
 | ((with_reducible show kJ _ _ (Oper.mk _ (Op.entry _) _ _ _ _) _ _ _); refine yK (by simp (maxSteps := 2000000) only [go_sem, reduceIte, reduceCtorEq, xA, xL, xD, xE, xM, xS, xB, Tryz.f29, Tryz.f91, Tryz.f122, Tryz.f46, Tryz.f73, Tryz.f72, Tryz.f120, Tryz.f157, bR, bP, bV, bU, bX, bY, bQ, bS, bW, bT, bC, bB, bF, bn, h0, ha1, hps, hlk, hup, jV, jR, jX, jY, eU, bg, List.length_reverse, bH, dh, maxLen]; rfl) (by simp (maxSteps := 2000000) only [go_sem, reduceIte, reduceCtorEq, xA, xL, xD, xE, xM, xS, xB, Tryz.f29, Tryz.f91, Tryz.f122, Tryz.f46, Tryz.f73, Tryz.f72, Tryz.f120, Tryz.f157, bR, bP, bV, bU, bX, bY, bQ, bS, bW, bT, bC, bB, bF, bn, h0, ha1, hps, hlk, hup, jV, jR, jX, jY, eU, bg, List.length_reverse, bH, dh, maxLen]; rfl) (by simp (maxSteps := 2000000) only [go_sem, reduceIte, reduceCtorEq, xA, xL, xD, xE, xM, xS, xB, Tryz.f29, Tryz.f91, Tryz.f122, Tryz.f46, Tryz.f73, Tryz.f72, Tryz.f120, Tryz.f157, bR, bP, bV, bU, bX, bY, bQ, bS, bW, bT, bC, bB, bF, bn, h0, ha1, hps, hlk, hup, jV, jR, jX, jY, eU, bg, List.length_reverse, bH, dh, maxLen]; rfl) (by ((intros; simp_all; done))) (fun yy hyy => ?_))
 | ((fail_if_success (with_reducible show AW _ _ _ _)); simp (maxSteps := 2000000) only [go_sem, reduceIte, reduceCtorEq, xA, xL, xD, xE, xM, xS, xB, Tryz.f29, Tryz.f91, Tryz.f122, Tryz.f46, Tryz.f73, Tryz.f72, Tryz.f120, Tryz.f157, bR, bP, bV, bU, bX, bY, bQ, bS, bW, bT, bC, bB, bF, bn, h0, ha1, hps, hlk, hup, jV, jR, jX, jY, eU, bg, List.length_reverse, bH, dh, maxLen])
 | ((with_reducible show aQ _ _ _ _ _ _ (.yld _) _ _ _); (refine lS (by simp only [EG, if_true]; exact rfl) ?_ (by simp) ?_ ?_ (fun K hK => ?_)); (focus (exact True.intro)); (focus (simp [ng])); (focus ((simp [jF]; done))); simp only [jm, gf, if_true, Nat.reduceAdd])
 | ((with_reducible refine hK _ ?_); clear hK K)
 | (with_reducible apply_assumption -exfalso only [*]))
  all_goals (have e := agL h0; rw [e.1, e.2]; have h8 := Nh (nU _ _ _ _) hnd hks hall; have h9 := abJ (Ai (f.S (jA f ch)) f.n f.N f.n); exact ⟨⟨by omega, fun c hc9 => (by have := iO _ c hc9; cases c <;> trivial)⟩, rfl, by unfold msL; omega, fun i o hi ho => ET _ i o (by omega) ho⟩)
theorem afY (f : aj) (hf : f.Ok) (ch : Int) : aA Tryz.prog 29 [jJ f, .one (.g (.int .i64 ch))] (.tup [.one (.g (.int .i64 (stU f ch))), .one (.lst 1 (DU f ch).length (bn (zL (DU f ch)))), .one (.g (.int .i64 (jL f ch)))]) := by
  by_cases h0 : jL f ch = 0
  · exact ak6 f hf ch h0
  · exact akn f hf ch h0
end Go.Proofs.YtcfechepbamhkaaGreat
namespace Go.Proofs.YtcfechepbamhkaaGreat
open Go.RowKit Go.Sea
theorem Ut (n : Nat) (s : Nat -> Int) : oQ n n s s = true := decide_eq_true ⟨rfl, fun _ _ => rfl⟩
theorem Zt (w n : Nat) (P : Nat -> Nat -> Int) : AP w n n P P = true := decide_eq_true ⟨rfl, fun _ _ _ _ => rfl⟩
theorem aaf (f : aZ) : uG f f = true := by unfold uG; rw [Zt, Zt, decide_eq_true (by simp)]; rfl
theorem ag8 (n : Nat) (f : Nat -> aZ) : AL n n f f = true := decide_eq_true ⟨rfl, fun i _ => aaf _⟩
theorem WJ (a : aH) : seqB a a = true := by unfold seqB; rw [Ut, ag8, decide_eq_true (by simp)]; rfl
theorem ag1 (n : Nat) (f : Nat -> fE) : EX n n f f = true := decide_eq_true ⟨rfl, fun i _ => by unfold qY; rw [aaf, decide_eq_true (by simp)]; rfl⟩
theorem agR (p : eH) : vQ p p = true := by unfold vQ; rw [decide_eq_true rfl, Ut, ag1]; rfl
theorem Np (a : ah) : vk a a = true := by unfold vk MV; rw [decide_eq_true (by simp), decide_eq_true ⟨rfl, fun i _ => agR _⟩]; rfl
theorem agw (f : aj) : Ig f f = true := decide_eq_true ⟨rfl, rfl, fun i _ => WJ _, fun i _ => Np _⟩
structure RcO (f : aj) (M : ah) : Prop where
  v : fK f = true
  m : gD M = true
  n : f.n < 200
  o : 0 < f.n -> (f.N 0).oc = M.oc
  j : ¬ (iy f M < f.n /\ (f.N (iy f M)).nu = M.nu)
theorem Iz {f : aj} {M : ah} (h : iK f M = 0) : RcO f M := ⟨(qE h).1, (qE h).2.1, (qE h).2.2.1, (qE h).2.2.2.1, (qE h).2.2.2.2⟩
theorem RcO.lo {f : aj} {M : ah} (h : RcO f M) {i : Nat} (hi : i < iy f M) : (f.N i).nu < M.nu := (Ee h.v (by have := ku f M; omega)).2 hi
theorem RcO.hi {f : aj} {M : ah} (h : RcO f M) {i : Nat} (hi : iy f M <= i) (hn : i < f.n) : M.nu < (f.N i).nu := by
  have h1 := mt (Ee (M := M) h.v hn).1 (by omega)
  have h2 : (f.N i).nu ≠ M.nu := fun e => h.j (by have := afK h.v hn e; subst this; exact ⟨hn, e⟩)
  omega
theorem pO {f : aj} {M : ah} {j i : Nat} (h : i < j) : pU f j M i = f.N i := if_pos h
theorem sW (f : aj) (M : ah) (j : Nat) : pU f j M j = M := by unfold pU; rw [if_neg (by omega), if_pos rfl]
theorem vF {f : aj} {M : ah} {j i : Nat} (h : j < i) : pU f j M i = f.N (i - 1) := by unfold pU; rw [if_neg (by omega), if_neg (by omega)]
theorem RcO.nts {f : aj} {M : ah} (h : RcO f M) : uw (f.n + 1) (pU f (iy f M) M) = true := by
  have hJ := ku f M
  have hN := mM (iB h.v).2.2
  have hoc : ∀ i, i < f.n + 1 -> (pU f (iy f M) M i).oc = M.oc := fun i hi => by
    rcases Nat.lt_trichotomy i (iy f M) with g | g | g
    · rw [pO g, (hN.2 i (by omega)).2.1]; exact h.o (by omega)
    · rw [g, sW]
    · rw [vF g, (hN.2 (i - 1) (by omega)).2.1]; exact h.o (by omega)
  refine decide_eq_true ⟨by have := h.n; omega, fun i hi => ⟨?_, by rw [hoc i hi, hoc 0 (by omega)], fun h0 => ?_⟩⟩
  · rcases Nat.lt_trichotomy i (iy f M) with g | g | g
    · rw [pO g]; exact (hN.2 i (by omega)).1
    · rw [g, sW]; exact h.m
    · rw [vF g]; exact (hN.2 (i - 1) (by omega)).1
  · rcases Nat.lt_trichotomy i (iy f M) with g | g | g
    · rw [pO g, pO (by omega)]; exact (hN.2 i (by omega)).2.2 h0
    · rw [g, sW, pO (by omega)]; exact h.lo (by omega)
    · by_cases g2 : i - 1 = iy f M
      · rw [vF g, g2, sW]; exact h.hi (Nat.le_refl _) (by omega)
      · rw [vF g, vF (by omega)]; exact (hN.2 (i - 1) (by omega)).2.2 (by omega)
theorem RcO.g {f : aj} {M : ah} (h : RcO f M) : fK (Tg f M) = true := by
  have hv := iB h.v
  unfold fK
  rw [Bool.and_eq_true]
  exact ⟨decide_eq_true ⟨hv.1, hv.2.1⟩, h.nts⟩
theorem ahT {f : aj} (h : fK f = true) : fK (BG f) = true := by
  have hv := iB h
  unfold fK
  rw [Bool.and_eq_true]
  refine ⟨decide_eq_true ⟨hv.1, fun i hi => ?_⟩, hv.2.2⟩
  have h1 := hv.2.1 i hi
  have h2 := Ve (n := f.n) (N := f.N) h1.1
  refine ⟨h2.1, fun h0 => ?_⟩
  have h3 := Ve (n := f.n) (N := f.N) (hv.2.1 (i - 1) (by have : i < f.k := hi; omega)).1
  show (rQ (f.S (i - 1)) f.n f.N).ch < (rQ (f.S i) f.n f.N).ch
  rw [h2.2.1, h3.2.1]; exact h1.2 h0
theorem Bu {f : aj} {M : ah} (h : iK f M = 0) : fK (dZ f M) = true /\ dZ f M = BG (Tg f M) := ⟨by rw [yI h]; exact ahT (Iz h).g, yI h⟩
theorem aiK {f : aj} {M : ah} (h : iK f M = 0) {K : ah} (hK : K.nu = M.nu) : iy (dZ f M) K = iy f M := by
  have ho := Iz h
  have hJ := ku f M
  unfold iy
  rw [(Bu h).2]
  refine lC (i := iy f M) ?_ (fun j hj => ?_) _ (by show iy f M < f.n + 1; omega)
  · exact decide_eq_true (by show K.nu <= (pU f (iy f M) M (iy f M)).nu; rw [sW, hK]; omega)
  · refine decide_eq_false ?_
    show ¬ K.nu <= (pU f (iy f M) M j).nu
    rw [pO hj, hK]; have := ho.lo hj; omega
theorem afr {f : aj} {M : ah} (h : iK f M = 0) : 0 < (dZ f M).n /\ ((dZ f M).N 0).oc = M.oc := by
  have ho := Iz h
  rw [(Bu h).2]
  refine ⟨Nat.succ_pos _, ?_⟩
  show (pU f (iy f M) M 0).oc = M.oc
  by_cases g : 0 < iy f M
  · rw [pO g]; exact ho.o (by have := ku f M; omega)
  · rw [show iy f M = 0 by omega, sW]
theorem Ez {f : aj} {M : ah} (h : iK f M = 0) : (dZ f M).N (iy f M) = M /\ (dZ f M).n = f.n + 1 /\ (dZ f M).k = f.k := by
  rw [(Bu h).2]; exact ⟨sW _ _ _, rfl, rfl⟩
theorem Jm {f : aj} {M : ah} (h : iK f M = 0) {K : ah} (hK : K.nu = M.nu) (hb : gD K = true) (ho : K.oc = M.oc) : iK (dZ f M) K = if vk M K = true then 5 else 18 := by
  have h1 := aiK h hK
  have h2 := Ez h
  have hJ := ku f M
  have h3 := afr h
  unfold iK
  rw [if_pos ⟨(Bu h).1, hb⟩, if_neg (by rintro ⟨_, q⟩; exact q (h3.2.trans ho.symm)), h1, if_pos ⟨by rw [h2.2.1]; omega, by rw [h2.1, hK]⟩, h2.1]
theorem Ht {f : aj} {M : ah} (h : iK f M = 0) : iK (dZ f M) M = 5 := by rw [Jm h rfl (Iz h).m rfl, if_pos (Np M)]
theorem aat {f : aj} {M : ah} (h : gD M = false) : iK f M = 1 := afs (Or.inr h)
theorem aaI {f : aj} {M : ah} (h : iK f M = 0) {K : ah} (hb : gD K = true) (ho : K.oc ≠ M.oc) : iK (dZ f M) K = 12 := by
  have h3 := afr h
  exact afS ⟨(Bu h).1, hb⟩ ⟨h3.1, by rw [h3.2]; exact fun e => ho e.symm⟩
theorem ai1 {a b : ah} (h : vk a b = true) : b.fr = a.fr /\ b.oc = a.oc := by
  unfold vk at h; simp only [Bool.and_eq_true, decide_eq_true_eq] at h; exact ⟨h.1.2.2.2.1.symm, h.1.1.symm⟩
theorem aeF (f : aj) (i : Nat) : dH ((BG f).S i) f.n f.N = f.n := (Me (f.S i) f.n f.N).2
theorem ajL {f : aj} (h : fK f = true) {i : Nat} (hi : i < f.k) : ((BG f).S i).ch = (f.S i).ch /\ ((BG f).S i).ed = (f.S i).ed := (Ve (n := f.n) (N := f.N) ((iB h).2.1 i hi).1).2
end Go.Proofs.YtcfechepbamhkaaGreat
