/- Part 14 of 16: contracts of functions and plain laws for the root text. No condition. -/
import Derived.Test.YtcfechepbamhkaaGreatY01
import Derived.Test.YtcfechepbamhkaaGreatY02
import Derived.Test.YtcfechepbamhkaaGreatY03
import Derived.Test.YtcfechepbamhkaaGreatY04
import Derived.Test.YtcfechepbamhkaaGreatY05
import Derived.Test.YtcfechepbamhkaaGreatY06
import Derived.Test.YtcfechepbamhkaaGreatY07
import Derived.Test.YtcfechepbamhkaaGreatY08
import Derived.Test.YtcfechepbamhkaaGreatY09
import Derived.Test.YtcfechepbamhkaaGreatY10
import Derived.Test.YtcfechepbamhkaaGreatY11
import Derived.Test.YtcfechepbamhkaaGreatY12
import Derived.Test.YtcfechepbamhkaaGreatY13
import Derived.Lib.AppendZerosOnto
import Derived.Laws.CopyRow
import Derived.Lib.Overlaps
set_option linter.unusedVariables false
set_option linter.unusedSimpArgs false
set_option maxRecDepth 100000
set_option maxHeartbeats 4000000
namespace Go.Proofs.YtcfechepbamhkaaGreat
open Go.RowKit Go.Sea
open Nat renaming reduceAdd -> xA, reduceLT -> xL, reduceLeDiff -> xD, reduceEqDiff -> xE, reduceMul -> xM, reduceSub -> xS, reduceBEq -> xB
theorem DR {f : aj} {M : ah} (hv : dR f = true) {i : Nat} (hi : i < f.n) : (f.N i).nu < M.nu ↔ i < iN f M := by
  have hn := (lW (iE hv).2.2).2
  constructor
  · intro h
    rcases Nat.lt_or_ge i (iN f M) with g | g
    · exact g
    · exfalso
      have hJ : iN f M < f.n := by omega
      have h1 := of_decide_eq_true ((gZ (b := fun i => decide (M.nu <= (f.N i).nu)) (k := f.n)).2 hJ)
      have h2 := aeA hn (x := M.nu) h1 i g hi
      omega
  · intro h
    have := of_decide_eq_false ((gZ (b := fun i => decide (M.nu <= (f.N i).nu)) (k := f.n)).1 i h)
    omega
theorem Vx {f : aj} {M : ah} (hv : dR f = true) {i : Nat} (hi : i < f.n) (h : (f.N i).nu = M.nu) : i = iN f M := by
  have hn := (lW (iE hv).2.2).2
  have h1 := mt (DR (M := M) hv hi).2 (by omega)
  rcases Nat.lt_or_ge (iN f M) i with g | g
  · have h2 := Am hn i g hi
    have h3 := mt (DR (M := M) hv (i := iN f M) (by omega)).1 (by omega)
    omega
  · omega
def JV (f : aj) (M : ah) : List ah := (List.range (f.n + 1)).map (za f (iN f M) M)
theorem acQ (S : Nat -> ah) : ∀ (n : Nat), Go.Sea.dZ (fB S) 7 n 0 = gQ ((List.range n).map S) := fun n => by
  have hl : (Go.Sea.dZ (fB S) 7 n 0).length = (gQ ((List.range n).map S)).length := by rw [fT, jh]; simp
  refine List.ext_getElem? fun i => ?_
  by_cases h : i < n * 7
  · have e : i = i / 7 * 7 + i % 7 := by omega
    have h1 := oQ (fB S) 7 n 0 (i / 7) (i % 7) (by omega) (Nat.mod_lt _ (by decide))
    rw [Nat.zero_add, <- e] at h1
    rw [h1]
    have h2 := Bw ((List.range n).map S) (i / 7) (i % 7) (by simp; omega) (Nat.mod_lt _ (by decide))
    rw [<- e] at h2
    have hlt : i < (gQ ((List.range n).map S)).length := by rw [jh]; simp; omega
    rw [List.getD, List.getElem?_eq_getElem hlt, Option.getD_some] at h2
    rw [List.getElem?_eq_getElem hlt, h2]
    have e3 : ((List.range n).map S).getD (i / 7) QO = S (i / 7) := by
      have : i / 7 < n := by omega
      simp [List.getD, this]
    rw [e3]
    have hm := Nat.mod_lt i (show 0 < 7 by decide)
    generalize i % 7 = o at hm
    generalize i / 7 = q
    rcases (by omega : o = 0 \/ o = 1 \/ o = 2 \/ o = 3 \/ o = 4 \/ o = 5 \/ o = 6) with rfl | rfl | rfl | rfl | rfl | rfl | rfl <;> rfl
  · rw [List.getElem?_eq_none (by rw [fT]; omega), List.getElem?_eq_none (by rw [jh]; simp; omega)]
theorem aiB {f : aj} {M : ah} : JV f M = nL f (iN f M) ++ [M] ++ (List.range (f.n - iN f M)).map (fun i => f.N (iN f M + i)) := by
  have hJ := mZ f M
  refine List.ext_getElem (by simp [JV, nL]; omega) fun i h1 h2 => ?_
  simp only [JV, nL, List.getElem_map, List.getElem_range, List.getElem_append, List.length_append, List.length_map, List.length_range, List.length_cons, List.length_nil]
  unfold za
  by_cases c1 : i < iN f M
  · rw [if_pos c1, dif_pos (by omega), dif_pos c1]
  · rw [if_neg c1]
    by_cases c2 : i = iN f M
    · rw [if_pos c2, dif_pos (by omega), dif_neg c1]; simp [c2]
    · rw [if_neg c2, dif_neg (by omega)]
      congr 1; omega
theorem mF (f : aj) (M : ah) : (JV f M).length = f.n + 1 := by simp [JV]
theorem X8 {f : aj} (hf : f.Ok) {M : ah} (ho : M.Ok) (hn : f.n <= 200) : (YT f M).Ok := ⟨hf.k, hf.s, by show f.n + 1 <= _; omega, fun i hi => by
  have hi' : i < f.n + 1 := hi
  show (za f (iN f M) M i).Ok
  have hJ := mZ f M
  unfold za
  split
  · exact hf.nn i (by omega)
  · split
    · exact ho
    · exact hf.nn (i - 1) (by omega)⟩
theorem acu {f : aj} {M : ah} : ∀ i o, i < (YT f M).n -> o < 7 -> (GX ((gQ (JV f M)).getD (i * 7 + o) .any)).eqv (fB (YT f M).N i o) := fun i o hi ho => by
  have hi' : i < f.n + 1 := hi
  have h := Sm (JV f M) i o (by rw [mF]; exact hi') ho
  rwa [show (JV f M).getD i QO = (YT f M).N i by simp [JV, List.getD, hi', YT]] at h
theorem Ee {f : aj} {M : ah} (h : jZ f M = 0) : vX f M = JL (YT f M) := by unfold vX; rw [if_pos h]
def aV (f : aj) (M : ah) : AV := .t (.one (.iv (.g (.int .i64 ((iN f M) : Int)))))
def bI (f : aj) (M : ah) : Option (List CV) := some [.iv (.lst 13 f.k (ji f.S)), .iv (.lst 7 f.n (fB f.N))]
def aU (f : aj) (M : ah) : Option (List CV) := some [.iv (.g (.int .i64 M.oc)), .iv (.g (.int .i64 M.nu)), .iv (.g (.int .i64 M.kd)), .iv (.g (.int .i64 M.fr)), .iv (.g (.int .i64 M.un)), .iv (.g (.int .i64 M.ca)), .iv (.lst 3 M.n (eO M.p))]
def bJ (f : aj) (M : ah) : Option (List CV) := some [.iv (.g (.slice none 0 0)), .iv (.g (.slice none 0 0))]
def bO (f : aj) (M : ah) : Option (List CV) := some [.iv (.lst 13 f.k (ji f.S)), .slc 4 0 (iN f M) 7]
def bN (f : aj) (M : ah) : Option (List CV) := some (gQ (nL f (iN f M)))
def gF (f : aj) (M : ah) : AV := .t (.one (.slc 4 0 (iN f M) 7))
def gD (f : aj) (M : ah) : AV := .t (.agg [.iv (.g (.int .i64 M.oc)), .iv (.g (.int .i64 M.nu)), .iv (.g (.int .i64 M.kd)), .iv (.g (.int .i64 M.fr)), .iv (.g (.int .i64 M.un)), .iv (.g (.int .i64 M.ca)), .iv (.lst 3 M.n (eO M.p))])
def pR (f : aj) (M : ah) : AV := .t (.one (.slc 4 0 ((iN f M) + 1) 7))
def mV (f : aj) (M : ah) : Option (List CV) := some [.iv (.lst 13 f.k (ji f.S)), .any]
def mM (f : aj) (M : ah) : Option (List CV) := some (gQ (nL f (iN f M) ++ [M]))
def fD (f : aj) (M : ah) : AV := .t (.one (.iv (.lst 7 f.n (fB f.N))))
def jI (f : aj) (M : ah) : AV := .t (.one (.iv (.lst 7 (f.n - (iN f M)) (fun i o => fB f.N ((iN f M) + i) o))))
def cK (m : Nat) : List Nat := if m = 0 then [2,3,4,6,9] else if m = 1 then [2,3,4,6,9,78] else if m = 3 then [2,3,4,6,9,79] else if m = 4 then [2,3,4,6,9,80] else if m = 5 then [2,3,4,6,9,78,80] else if m = 7 then [2,3,4,6,9,79,80] else if m = 12 then [2,3,4,6,9,81] else if m = 13 then [2,3,4,6,9,78,81] else if m = 15 then [2,3,4,6,9,79,81] else if m = 31 then [2,3,4,6,9,82] else if m = 32 then [2,3,4,6,9,83] else if m = 33 then [2,3,4,6,9,78,83] else if m = 35 then [2,3,4,6,9,79,83] else if m = 36 then [2,3,4,6,9,80,83] else if m = 37 then [2,3,4,6,9,78,80,83] else if m = 39 then [2,3,4,6,9,79,80,83] else if m = 44 then [2,3,4,6,9,81,83] else if m = 45 then [2,3,4,6,9,78,81,83] else if m = 47 then [2,3,4,6,9,79,81,83] else if m = 63 then [2,3,4,6,9,82,83] else if m = 96 then [2,3,4,6,9,84] else if m = 97 then [2,3,4,6,9,78,84] else if m = 99 then [2,3,4,6,9,79,84] else if m = 100 then [2,3,4,6,9,80,84] else if m = 101 then [2,3,4,6,9,78,80,84] else if m = 103 then [2,3,4,6,9,79,80,84] else if m = 108 then [2,3,4,6,9,81,84] else if m = 109 then [2,3,4,6,9,78,81,84] else if m = 111 then [2,3,4,6,9,79,81,84] else if m = 127 then [2,3,4,6,9,82,84] else if m = 128 then [2,3,4,6,9,85] else if m = 129 then [2,3,4,6,9,78,85] else if m = 131 then [2,3,4,6,9,79,85] else if m = 132 then [2,3,4,6,9,80,85] else if m = 133 then [2,3,4,6,9,78,80,85] else if m = 135 then [2,3,4,6,9,79,80,85] else if m = 140 then [2,3,4,6,9,81,85] else if m = 141 then [2,3,4,6,9,78,81,85] else if m = 143 then [2,3,4,6,9,79,81,85] else if m = 159 then [2,3,4,6,9,82,85] else if m = 160 then [2,3,4,6,9,83,85] else if m = 161 then [2,3,4,6,9,78,83,85] else if m = 163 then [2,3,4,6,9,79,83,85] else if m = 164 then [2,3,4,6,9,80,83,85] else if m = 165 then [2,3,4,6,9,78,80,83,85] else if m = 167 then [2,3,4,6,9,79,80,83,85] else if m = 172 then [2,3,4,6,9,81,83,85] else if m = 173 then [2,3,4,6,9,78,81,83,85] else if m = 175 then [2,3,4,6,9,79,81,83,85] else if m = 191 then [2,3,4,6,9,82,83,85] else if m = 224 then [2,3,4,6,9,84,85] else if m = 225 then [2,3,4,6,9,78,84,85] else if m = 227 then [2,3,4,6,9,79,84,85] else if m = 228 then [2,3,4,6,9,80,84,85] else if m = 229 then [2,3,4,6,9,78,80,84,85] else if m = 231 then [2,3,4,6,9,79,80,84,85] else if m = 236 then [2,3,4,6,9,81,84,85] else if m = 237 then [2,3,4,6,9,78,81,84,85] else if m = 239 then [2,3,4,6,9,79,81,84,85] else if m = 255 then [2,3,4,6,9,82,84,85] else if m = 480 then [2,3,4,6,9,86] else if m = 481 then [2,3,4,6,9,78,86] else if m = 483 then [2,3,4,6,9,79,86] else if m = 484 then [2,3,4,6,9,80,86] else if m = 485 then [2,3,4,6,9,78,80,86] else if m = 487 then [2,3,4,6,9,79,80,86] else if m = 492 then [2,3,4,6,9,81,86] else if m = 493 then [2,3,4,6,9,78,81,86] else if m = 495 then [2,3,4,6,9,79,81,86] else if m = 511 then [2,3,4,6,9,82,86] else if m = 1023 then [2,3,4,6,9,87] else if m = 2047 then [2,3,4,6,9,87,88] else if m = 4095 then [4,6] else []
theorem Zf : cK 0 = [2,3,4,6,9] := rfl
theorem acF : cK 1 = [2,3,4,6,9,78] := rfl
theorem abz : cK 3 = [2,3,4,6,9,79] := rfl
theorem acz : cK 4 = [2,3,4,6,9,80] := rfl
theorem Zl : cK 5 = [2,3,4,6,9,78,80] := rfl
theorem Y6 : cK 7 = [2,3,4,6,9,79,80] := rfl
theorem Wd : cK 12 = [2,3,4,6,9,81] := rfl
theorem Ux : cK 13 = [2,3,4,6,9,78,81] := rfl
theorem Td : cK 15 = [2,3,4,6,9,79,81] := rfl
theorem Sg : cK 31 = [2,3,4,6,9,82] := rfl
theorem WG : cK 32 = [2,3,4,6,9,83] := rfl
theorem Vu : cK 33 = [2,3,4,6,9,78,83] := rfl
theorem V9 : cK 35 = [2,3,4,6,9,79,83] := rfl
theorem Vg : cK 36 = [2,3,4,6,9,80,83] := rfl
theorem VK : cK 37 = [2,3,4,6,9,78,80,83] := rfl
theorem WJ : cK 39 = [2,3,4,6,9,79,80,83] := rfl
theorem Vz : cK 44 = [2,3,4,6,9,81,83] := rfl
theorem Wm : cK 45 = [2,3,4,6,9,78,81,83] := rfl
theorem Ut : cK 47 = [2,3,4,6,9,79,81,83] := rfl
theorem Ud : cK 63 = [2,3,4,6,9,82,83] := rfl
theorem Xb : cK 96 = [2,3,4,6,9,84] := rfl
theorem SA : cK 97 = [2,3,4,6,9,78,84] := rfl
theorem X7 : cK 99 = [2,3,4,6,9,79,84] := rfl
theorem Qk : cK 100 = [2,3,4,6,9,80,84] := rfl
theorem O6 : cK 101 = [2,3,4,6,9,78,80,84] := rfl
theorem OJ : cK 103 = [2,3,4,6,9,79,80,84] := rfl
theorem PX : cK 108 = [2,3,4,6,9,81,84] := rfl
theorem Qo : cK 109 = [2,3,4,6,9,78,81,84] := rfl
theorem OO : cK 111 = [2,3,4,6,9,79,81,84] := rfl
theorem PS : cK 127 = [2,3,4,6,9,82,84] := rfl
theorem Pg : cK 128 = [2,3,4,6,9,85] := rfl
theorem Qu : cK 129 = [2,3,4,6,9,78,85] := rfl
theorem OI : cK 131 = [2,3,4,6,9,79,85] := rfl
theorem OW : cK 132 = [2,3,4,6,9,80,85] := rfl
theorem RD : cK 133 = [2,3,4,6,9,78,80,85] := rfl
theorem Pb : cK 135 = [2,3,4,6,9,79,80,85] := rfl
theorem QE : cK 140 = [2,3,4,6,9,81,85] := rfl
theorem O8 : cK 141 = [2,3,4,6,9,78,81,85] := rfl
theorem Oy : cK 143 = [2,3,4,6,9,79,81,85] := rfl
theorem QG : cK 159 = [2,3,4,6,9,82,85] := rfl
theorem QM : cK 160 = [2,3,4,6,9,83,85] := rfl
theorem Po : cK 161 = [2,3,4,6,9,78,83,85] := rfl
theorem QF : cK 163 = [2,3,4,6,9,79,83,85] := rfl
theorem OQ : cK 164 = [2,3,4,6,9,80,83,85] := rfl
theorem OV : cK 165 = [2,3,4,6,9,78,80,83,85] := rfl
theorem Qt : cK 167 = [2,3,4,6,9,79,80,83,85] := rfl
theorem QB : cK 172 = [2,3,4,6,9,81,83,85] := rfl
theorem O9 : cK 173 = [2,3,4,6,9,78,81,83,85] := rfl
theorem QH : cK 175 = [2,3,4,6,9,79,81,83,85] := rfl
theorem OP : cK 191 = [2,3,4,6,9,82,83,85] := rfl
theorem Px : cK 224 = [2,3,4,6,9,84,85] := rfl
theorem Ph : cK 225 = [2,3,4,6,9,78,84,85] := rfl
theorem Qe : cK 227 = [2,3,4,6,9,79,84,85] := rfl
theorem OG : cK 228 = [2,3,4,6,9,80,84,85] := rfl
theorem Qm : cK 229 = [2,3,4,6,9,78,80,84,85] := rfl
theorem OM : cK 231 = [2,3,4,6,9,79,80,84,85] := rfl
theorem OA : cK 236 = [2,3,4,6,9,81,84,85] := rfl
theorem QV : cK 237 = [2,3,4,6,9,78,81,84,85] := rfl
theorem Q5 : cK 239 = [2,3,4,6,9,79,81,84,85] := rfl
theorem QJ : cK 255 = [2,3,4,6,9,82,84,85] := rfl
theorem Qw : cK 480 = [2,3,4,6,9,86] := rfl
theorem Rp : cK 481 = [2,3,4,6,9,78,86] := rfl
theorem QU : cK 483 = [2,3,4,6,9,79,86] := rfl
theorem Ry : cK 484 = [2,3,4,6,9,80,86] := rfl
theorem PO : cK 485 = [2,3,4,6,9,78,80,86] := rfl
theorem PU : cK 487 = [2,3,4,6,9,79,80,86] := rfl
theorem Qc : cK 492 = [2,3,4,6,9,81,86] := rfl
theorem PZ : cK 493 = [2,3,4,6,9,78,81,86] := rfl
theorem QX : cK 495 = [2,3,4,6,9,79,81,86] := rfl
theorem Pm : cK 511 = [2,3,4,6,9,82,86] := rfl
theorem Mc : cK 1023 = [2,3,4,6,9,87] := rfl
theorem Kr : cK 2047 = [2,3,4,6,9,87,88] := rfl
theorem Kn : cK 4095 = [4,6] := rfl
def zW (f : aj) (M : ah) : AS := ⟨[(2, .t (.one (.ptr 0 0))), (3, .t (.one (.ptr 1 0))), (4, .t (.one (.ptr 2 0))), (6, .t (.one (.ptr 3 0))), (9, (aV f M))], [(bI f M), (aU f M), (bJ f M), (bO f M), (bN f M)], 91, [], LP.top⟩
def EI (f : aj) (M : ah) : AS := ⟨[(2, .t (.one (.ptr 0 0))), (3, .t (.one (.ptr 1 0))), (4, .t (.one (.ptr 2 0))), (6, .t (.one (.ptr 3 0))), (9, (aV f M)), (78, .t (.one (.ptr 3 1)))], [(bI f M), (aU f M), (bJ f M), (bO f M), (bN f M)], 91, [], LP.top⟩
def FX (f : aj) (M : ah) : AS := ⟨[(2, .t (.one (.ptr 0 0))), (3, .t (.one (.ptr 1 0))), (4, .t (.one (.ptr 2 0))), (6, .t (.one (.ptr 3 0))), (9, (aV f M)), (79, (gF f M))], [(bI f M), (aU f M), (bJ f M), (bO f M), (bN f M)], 91, [], LP.top⟩
def F4 (f : aj) (M : ah) : AS := ⟨[(2, .t (.one (.ptr 0 0))), (3, .t (.one (.ptr 1 0))), (4, .t (.one (.ptr 2 0))), (6, .t (.one (.ptr 3 0))), (9, (aV f M)), (80, (gD f M))], [(bI f M), (aU f M), (bJ f M), (bO f M), (bN f M)], 91, [], LP.top⟩
def Er (f : aj) (M : ah) : AS := ⟨[(2, .t (.one (.ptr 0 0))), (3, .t (.one (.ptr 1 0))), (4, .t (.one (.ptr 2 0))), (6, .t (.one (.ptr 3 0))), (9, (aV f M)), (78, .t (.one (.ptr 3 1))), (80, (gD f M))], [(bI f M), (aU f M), (bJ f M), (bO f M), (bN f M)], 91, [], LP.top⟩
def FI (f : aj) (M : ah) : AS := ⟨[(2, .t (.one (.ptr 0 0))), (3, .t (.one (.ptr 1 0))), (4, .t (.one (.ptr 2 0))), (6, .t (.one (.ptr 3 0))), (9, (aV f M)), (79, (gF f M)), (80, (gD f M))], [(bI f M), (aU f M), (bJ f M), (bO f M), (bN f M)], 91, [], LP.top⟩
def CW (f : aj) (M : ah) : AS := ⟨[(2, .t (.one (.ptr 0 0))), (3, .t (.one (.ptr 1 0))), (4, .t (.one (.ptr 2 0))), (6, .t (.one (.ptr 3 0))), (9, (aV f M)), (81, .t (.one (.slc 8 0 1 7)))], [(bI f M), (aU f M), (bJ f M), (bO f M), (bN f M), none, none, none, (aU f M)], 91, [], LP.top⟩
def Bc (f : aj) (M : ah) : AS := ⟨[(2, .t (.one (.ptr 0 0))), (3, .t (.one (.ptr 1 0))), (4, .t (.one (.ptr 2 0))), (6, .t (.one (.ptr 3 0))), (9, (aV f M)), (78, .t (.one (.ptr 3 1))), (81, .t (.one (.slc 8 0 1 7)))], [(bI f M), (aU f M), (bJ f M), (bO f M), (bN f M), none, none, none, (aU f M)], 91, [], LP.top⟩
def CF (f : aj) (M : ah) : AS := ⟨[(2, .t (.one (.ptr 0 0))), (3, .t (.one (.ptr 1 0))), (4, .t (.one (.ptr 2 0))), (6, .t (.one (.ptr 3 0))), (9, (aV f M)), (79, (gF f M)), (81, .t (.one (.slc 8 0 1 7)))], [(bI f M), (aU f M), (bJ f M), (bO f M), (bN f M), none, none, none, (aU f M)], 91, [], LP.top⟩
def Ci (f : aj) (M : ah) : AS := ⟨[(2, .t (.one (.ptr 0 0))), (3, .t (.one (.ptr 1 0))), (4, .t (.one (.ptr 2 0))), (6, .t (.one (.ptr 3 0))), (9, (aV f M)), (82, (pR f M))], [(bI f M), (aU f M), (bJ f M), (mV f M), (mM f M), none, none, none, (aU f M)], 91, [], LP.top⟩
def BN (f : aj) (M : ah) : AS := ⟨[(2, .t (.one (.ptr 0 0))), (3, .t (.one (.ptr 1 0))), (4, .t (.one (.ptr 2 0))), (6, .t (.one (.ptr 3 0))), (9, (aV f M)), (83, .t (.one (.ptr 0 1)))], [(bI f M), (aU f M), (bJ f M), (bO f M), (bN f M)], 91, [], LP.top⟩
def Bv (f : aj) (M : ah) : AS := ⟨[(2, .t (.one (.ptr 0 0))), (3, .t (.one (.ptr 1 0))), (4, .t (.one (.ptr 2 0))), (6, .t (.one (.ptr 3 0))), (9, (aV f M)), (78, .t (.one (.ptr 3 1))), (83, .t (.one (.ptr 0 1)))], [(bI f M), (aU f M), (bJ f M), (bO f M), (bN f M)], 91, [], LP.top⟩
def Ca (f : aj) (M : ah) : AS := ⟨[(2, .t (.one (.ptr 0 0))), (3, .t (.one (.ptr 1 0))), (4, .t (.one (.ptr 2 0))), (6, .t (.one (.ptr 3 0))), (9, (aV f M)), (79, (gF f M)), (83, .t (.one (.ptr 0 1)))], [(bI f M), (aU f M), (bJ f M), (bO f M), (bN f M)], 91, [], LP.top⟩
def BG (f : aj) (M : ah) : AS := ⟨[(2, .t (.one (.ptr 0 0))), (3, .t (.one (.ptr 1 0))), (4, .t (.one (.ptr 2 0))), (6, .t (.one (.ptr 3 0))), (9, (aV f M)), (80, (gD f M)), (83, .t (.one (.ptr 0 1)))], [(bI f M), (aU f M), (bJ f M), (bO f M), (bN f M)], 91, [], LP.top⟩
def AP (f : aj) (M : ah) : AS := ⟨[(2, .t (.one (.ptr 0 0))), (3, .t (.one (.ptr 1 0))), (4, .t (.one (.ptr 2 0))), (6, .t (.one (.ptr 3 0))), (9, (aV f M)), (78, .t (.one (.ptr 3 1))), (80, (gD f M)), (83, .t (.one (.ptr 0 1)))], [(bI f M), (aU f M), (bJ f M), (bO f M), (bN f M)], 91, [], LP.top⟩
def CK (f : aj) (M : ah) : AS := ⟨[(2, .t (.one (.ptr 0 0))), (3, .t (.one (.ptr 1 0))), (4, .t (.one (.ptr 2 0))), (6, .t (.one (.ptr 3 0))), (9, (aV f M)), (79, (gF f M)), (80, (gD f M)), (83, .t (.one (.ptr 0 1)))], [(bI f M), (aU f M), (bJ f M), (bO f M), (bN f M)], 91, [], LP.top⟩
def AB (f : aj) (M : ah) : AS := ⟨[(2, .t (.one (.ptr 0 0))), (3, .t (.one (.ptr 1 0))), (4, .t (.one (.ptr 2 0))), (6, .t (.one (.ptr 3 0))), (9, (aV f M)), (81, .t (.one (.slc 8 0 1 7))), (83, .t (.one (.ptr 0 1)))], [(bI f M), (aU f M), (bJ f M), (bO f M), (bN f M), none, none, none, (aU f M)], 91, [], LP.top⟩
def Aa (f : aj) (M : ah) : AS := ⟨[(2, .t (.one (.ptr 0 0))), (3, .t (.one (.ptr 1 0))), (4, .t (.one (.ptr 2 0))), (6, .t (.one (.ptr 3 0))), (9, (aV f M)), (78, .t (.one (.ptr 3 1))), (81, .t (.one (.slc 8 0 1 7))), (83, .t (.one (.ptr 0 1)))], [(bI f M), (aU f M), (bJ f M), (bO f M), (bN f M), none, none, none, (aU f M)], 91, [], LP.top⟩
def BX (f : aj) (M : ah) : AS := ⟨[(2, .t (.one (.ptr 0 0))), (3, .t (.one (.ptr 1 0))), (4, .t (.one (.ptr 2 0))), (6, .t (.one (.ptr 3 0))), (9, (aV f M)), (79, (gF f M)), (81, .t (.one (.slc 8 0 1 7))), (83, .t (.one (.ptr 0 1)))], [(bI f M), (aU f M), (bJ f M), (bO f M), (bN f M), none, none, none, (aU f M)], 91, [], LP.top⟩
def BP (f : aj) (M : ah) : AS := ⟨[(2, .t (.one (.ptr 0 0))), (3, .t (.one (.ptr 1 0))), (4, .t (.one (.ptr 2 0))), (6, .t (.one (.ptr 3 0))), (9, (aV f M)), (82, (pR f M)), (83, .t (.one (.ptr 0 1)))], [(bI f M), (aU f M), (bJ f M), (mV f M), (mM f M), none, none, none, (aU f M)], 91, [], LP.top⟩
def CZ (f : aj) (M : ah) : AS := ⟨[(2, .t (.one (.ptr 0 0))), (3, .t (.one (.ptr 1 0))), (4, .t (.one (.ptr 2 0))), (6, .t (.one (.ptr 3 0))), (9, (aV f M)), (84, (fD f M))], [(bI f M), (aU f M), (bJ f M), (bO f M), (bN f M)], 91, [], LP.top⟩
def BA (f : aj) (M : ah) : AS := ⟨[(2, .t (.one (.ptr 0 0))), (3, .t (.one (.ptr 1 0))), (4, .t (.one (.ptr 2 0))), (6, .t (.one (.ptr 3 0))), (9, (aV f M)), (78, .t (.one (.ptr 3 1))), (84, (fD f M))], [(bI f M), (aU f M), (bJ f M), (bO f M), (bN f M)], 91, [], LP.top⟩
def BI (f : aj) (M : ah) : AS := ⟨[(2, .t (.one (.ptr 0 0))), (3, .t (.one (.ptr 1 0))), (4, .t (.one (.ptr 2 0))), (6, .t (.one (.ptr 3 0))), (9, (aV f M)), (79, (gF f M)), (84, (fD f M))], [(bI f M), (aU f M), (bJ f M), (bO f M), (bN f M)], 91, [], LP.top⟩
def xg (f : aj) (M : ah) : AS := ⟨[(2, .t (.one (.ptr 0 0))), (3, .t (.one (.ptr 1 0))), (4, .t (.one (.ptr 2 0))), (6, .t (.one (.ptr 3 0))), (9, (aV f M)), (80, (gD f M)), (84, (fD f M))], [(bI f M), (aU f M), (bJ f M), (bO f M), (bN f M)], 91, [], LP.top⟩
def vZ (f : aj) (M : ah) : AS := ⟨[(2, .t (.one (.ptr 0 0))), (3, .t (.one (.ptr 1 0))), (4, .t (.one (.ptr 2 0))), (6, .t (.one (.ptr 3 0))), (9, (aV f M)), (78, .t (.one (.ptr 3 1))), (80, (gD f M)), (84, (fD f M))], [(bI f M), (aU f M), (bJ f M), (bO f M), (bN f M)], 91, [], LP.top⟩
def vJ (f : aj) (M : ah) : AS := ⟨[(2, .t (.one (.ptr 0 0))), (3, .t (.one (.ptr 1 0))), (4, .t (.one (.ptr 2 0))), (6, .t (.one (.ptr 3 0))), (9, (aV f M)), (79, (gF f M)), (80, (gD f M)), (84, (fD f M))], [(bI f M), (aU f M), (bJ f M), (bO f M), (bN f M)], 91, [], LP.top⟩
def x9 (f : aj) (M : ah) : AS := ⟨[(2, .t (.one (.ptr 0 0))), (3, .t (.one (.ptr 1 0))), (4, .t (.one (.ptr 2 0))), (6, .t (.one (.ptr 3 0))), (9, (aV f M)), (81, .t (.one (.slc 8 0 1 7))), (84, (fD f M))], [(bI f M), (aU f M), (bJ f M), (bO f M), (bN f M), none, none, none, (aU f M)], 91, [], LP.top⟩
def yg (f : aj) (M : ah) : AS := ⟨[(2, .t (.one (.ptr 0 0))), (3, .t (.one (.ptr 1 0))), (4, .t (.one (.ptr 2 0))), (6, .t (.one (.ptr 3 0))), (9, (aV f M)), (78, .t (.one (.ptr 3 1))), (81, .t (.one (.slc 8 0 1 7))), (84, (fD f M))], [(bI f M), (aU f M), (bJ f M), (bO f M), (bN f M), none, none, none, (aU f M)], 91, [], LP.top⟩
def vQ (f : aj) (M : ah) : AS := ⟨[(2, .t (.one (.ptr 0 0))), (3, .t (.one (.ptr 1 0))), (4, .t (.one (.ptr 2 0))), (6, .t (.one (.ptr 3 0))), (9, (aV f M)), (79, (gF f M)), (81, .t (.one (.slc 8 0 1 7))), (84, (fD f M))], [(bI f M), (aU f M), (bJ f M), (bO f M), (bN f M), none, none, none, (aU f M)], 91, [], LP.top⟩
def wN (f : aj) (M : ah) : AS := ⟨[(2, .t (.one (.ptr 0 0))), (3, .t (.one (.ptr 1 0))), (4, .t (.one (.ptr 2 0))), (6, .t (.one (.ptr 3 0))), (9, (aV f M)), (82, (pR f M)), (84, (fD f M))], [(bI f M), (aU f M), (bJ f M), (mV f M), (mM f M), none, none, none, (aU f M)], 91, [], LP.top⟩
def wR (f : aj) (M : ah) : AS := ⟨[(2, .t (.one (.ptr 0 0))), (3, .t (.one (.ptr 1 0))), (4, .t (.one (.ptr 2 0))), (6, .t (.one (.ptr 3 0))), (9, (aV f M)), (85, (aV f M))], [(bI f M), (aU f M), (bJ f M), (bO f M), (bN f M)], 91, [], LP.top⟩
def vG (f : aj) (M : ah) : AS := ⟨[(2, .t (.one (.ptr 0 0))), (3, .t (.one (.ptr 1 0))), (4, .t (.one (.ptr 2 0))), (6, .t (.one (.ptr 3 0))), (9, (aV f M)), (78, .t (.one (.ptr 3 1))), (85, (aV f M))], [(bI f M), (aU f M), (bJ f M), (bO f M), (bN f M)], 91, [], LP.top⟩
def wX (f : aj) (M : ah) : AS := ⟨[(2, .t (.one (.ptr 0 0))), (3, .t (.one (.ptr 1 0))), (4, .t (.one (.ptr 2 0))), (6, .t (.one (.ptr 3 0))), (9, (aV f M)), (79, (gF f M)), (85, (aV f M))], [(bI f M), (aU f M), (bJ f M), (bO f M), (bN f M)], 91, [], LP.top⟩
def wW (f : aj) (M : ah) : AS := ⟨[(2, .t (.one (.ptr 0 0))), (3, .t (.one (.ptr 1 0))), (4, .t (.one (.ptr 2 0))), (6, .t (.one (.ptr 3 0))), (9, (aV f M)), (80, (gD f M)), (85, (aV f M))], [(bI f M), (aU f M), (bJ f M), (bO f M), (bN f M)], 91, [], LP.top⟩
def wT (f : aj) (M : ah) : AS := ⟨[(2, .t (.one (.ptr 0 0))), (3, .t (.one (.ptr 1 0))), (4, .t (.one (.ptr 2 0))), (6, .t (.one (.ptr 3 0))), (9, (aV f M)), (78, .t (.one (.ptr 3 1))), (80, (gD f M)), (85, (aV f M))], [(bI f M), (aU f M), (bJ f M), (bO f M), (bN f M)], 91, [], LP.top⟩
def wz (f : aj) (M : ah) : AS := ⟨[(2, .t (.one (.ptr 0 0))), (3, .t (.one (.ptr 1 0))), (4, .t (.one (.ptr 2 0))), (6, .t (.one (.ptr 3 0))), (9, (aV f M)), (79, (gF f M)), (80, (gD f M)), (85, (aV f M))], [(bI f M), (aU f M), (bJ f M), (bO f M), (bN f M)], 91, [], LP.top⟩
def wM (f : aj) (M : ah) : AS := ⟨[(2, .t (.one (.ptr 0 0))), (3, .t (.one (.ptr 1 0))), (4, .t (.one (.ptr 2 0))), (6, .t (.one (.ptr 3 0))), (9, (aV f M)), (81, .t (.one (.slc 8 0 1 7))), (85, (aV f M))], [(bI f M), (aU f M), (bJ f M), (bO f M), (bN f M), none, none, none, (aU f M)], 91, [], LP.top⟩
def yc (f : aj) (M : ah) : AS := ⟨[(2, .t (.one (.ptr 0 0))), (3, .t (.one (.ptr 1 0))), (4, .t (.one (.ptr 2 0))), (6, .t (.one (.ptr 3 0))), (9, (aV f M)), (78, .t (.one (.ptr 3 1))), (81, .t (.one (.slc 8 0 1 7))), (85, (aV f M))], [(bI f M), (aU f M), (bJ f M), (bO f M), (bN f M), none, none, none, (aU f M)], 91, [], LP.top⟩
def wG (f : aj) (M : ah) : AS := ⟨[(2, .t (.one (.ptr 0 0))), (3, .t (.one (.ptr 1 0))), (4, .t (.one (.ptr 2 0))), (6, .t (.one (.ptr 3 0))), (9, (aV f M)), (79, (gF f M)), (81, .t (.one (.slc 8 0 1 7))), (85, (aV f M))], [(bI f M), (aU f M), (bJ f M), (bO f M), (bN f M), none, none, none, (aU f M)], 91, [], LP.top⟩
def wB (f : aj) (M : ah) : AS := ⟨[(2, .t (.one (.ptr 0 0))), (3, .t (.one (.ptr 1 0))), (4, .t (.one (.ptr 2 0))), (6, .t (.one (.ptr 3 0))), (9, (aV f M)), (82, (pR f M)), (85, (aV f M))], [(bI f M), (aU f M), (bJ f M), (mV f M), (mM f M), none, none, none, (aU f M)], 91, [], LP.top⟩
def vT (f : aj) (M : ah) : AS := ⟨[(2, .t (.one (.ptr 0 0))), (3, .t (.one (.ptr 1 0))), (4, .t (.one (.ptr 2 0))), (6, .t (.one (.ptr 3 0))), (9, (aV f M)), (83, .t (.one (.ptr 0 1))), (85, (aV f M))], [(bI f M), (aU f M), (bJ f M), (bO f M), (bN f M)], 91, [], LP.top⟩
def wI (f : aj) (M : ah) : AS := ⟨[(2, .t (.one (.ptr 0 0))), (3, .t (.one (.ptr 1 0))), (4, .t (.one (.ptr 2 0))), (6, .t (.one (.ptr 3 0))), (9, (aV f M)), (78, .t (.one (.ptr 3 1))), (83, .t (.one (.ptr 0 1))), (85, (aV f M))], [(bI f M), (aU f M), (bJ f M), (bO f M), (bN f M)], 91, [], LP.top⟩
def yu (f : aj) (M : ah) : AS := ⟨[(2, .t (.one (.ptr 0 0))), (3, .t (.one (.ptr 1 0))), (4, .t (.one (.ptr 2 0))), (6, .t (.one (.ptr 3 0))), (9, (aV f M)), (79, (gF f M)), (83, .t (.one (.ptr 0 1))), (85, (aV f M))], [(bI f M), (aU f M), (bJ f M), (bO f M), (bN f M)], 91, [], LP.top⟩
def wU (f : aj) (M : ah) : AS := ⟨[(2, .t (.one (.ptr 0 0))), (3, .t (.one (.ptr 1 0))), (4, .t (.one (.ptr 2 0))), (6, .t (.one (.ptr 3 0))), (9, (aV f M)), (80, (gD f M)), (83, .t (.one (.ptr 0 1))), (85, (aV f M))], [(bI f M), (aU f M), (bJ f M), (bO f M), (bN f M)], 91, [], LP.top⟩
def vI (f : aj) (M : ah) : AS := ⟨[(2, .t (.one (.ptr 0 0))), (3, .t (.one (.ptr 1 0))), (4, .t (.one (.ptr 2 0))), (6, .t (.one (.ptr 3 0))), (9, (aV f M)), (78, .t (.one (.ptr 3 1))), (80, (gD f M)), (83, .t (.one (.ptr 0 1))), (85, (aV f M))], [(bI f M), (aU f M), (bJ f M), (bO f M), (bN f M)], 91, [], LP.top⟩
def vD (f : aj) (M : ah) : AS := ⟨[(2, .t (.one (.ptr 0 0))), (3, .t (.one (.ptr 1 0))), (4, .t (.one (.ptr 2 0))), (6, .t (.one (.ptr 3 0))), (9, (aV f M)), (79, (gF f M)), (80, (gD f M)), (83, .t (.one (.ptr 0 1))), (85, (aV f M))], [(bI f M), (aU f M), (bJ f M), (bO f M), (bN f M)], 91, [], LP.top⟩
def vV (f : aj) (M : ah) : AS := ⟨[(2, .t (.one (.ptr 0 0))), (3, .t (.one (.ptr 1 0))), (4, .t (.one (.ptr 2 0))), (6, .t (.one (.ptr 3 0))), (9, (aV f M)), (81, .t (.one (.slc 8 0 1 7))), (83, .t (.one (.ptr 0 1))), (85, (aV f M))], [(bI f M), (aU f M), (bJ f M), (bO f M), (bN f M), none, none, none, (aU f M)], 91, [], LP.top⟩
def vo (f : aj) (M : ah) : AS := ⟨[(2, .t (.one (.ptr 0 0))), (3, .t (.one (.ptr 1 0))), (4, .t (.one (.ptr 2 0))), (6, .t (.one (.ptr 3 0))), (9, (aV f M)), (78, .t (.one (.ptr 3 1))), (81, .t (.one (.slc 8 0 1 7))), (83, .t (.one (.ptr 0 1))), (85, (aV f M))], [(bI f M), (aU f M), (bJ f M), (bO f M), (bN f M), none, none, none, (aU f M)], 91, [], LP.top⟩
def xw (f : aj) (M : ah) : AS := ⟨[(2, .t (.one (.ptr 0 0))), (3, .t (.one (.ptr 1 0))), (4, .t (.one (.ptr 2 0))), (6, .t (.one (.ptr 3 0))), (9, (aV f M)), (79, (gF f M)), (81, .t (.one (.slc 8 0 1 7))), (83, .t (.one (.ptr 0 1))), (85, (aV f M))], [(bI f M), (aU f M), (bJ f M), (bO f M), (bN f M), none, none, none, (aU f M)], 91, [], LP.top⟩
def vH (f : aj) (M : ah) : AS := ⟨[(2, .t (.one (.ptr 0 0))), (3, .t (.one (.ptr 1 0))), (4, .t (.one (.ptr 2 0))), (6, .t (.one (.ptr 3 0))), (9, (aV f M)), (82, (pR f M)), (83, .t (.one (.ptr 0 1))), (85, (aV f M))], [(bI f M), (aU f M), (bJ f M), (mV f M), (mM f M), none, none, none, (aU f M)], 91, [], LP.top⟩
def vY (f : aj) (M : ah) : AS := ⟨[(2, .t (.one (.ptr 0 0))), (3, .t (.one (.ptr 1 0))), (4, .t (.one (.ptr 2 0))), (6, .t (.one (.ptr 3 0))), (9, (aV f M)), (84, (fD f M)), (85, (aV f M))], [(bI f M), (aU f M), (bJ f M), (bO f M), (bN f M)], 91, [], LP.top⟩
def vS (f : aj) (M : ah) : AS := ⟨[(2, .t (.one (.ptr 0 0))), (3, .t (.one (.ptr 1 0))), (4, .t (.one (.ptr 2 0))), (6, .t (.one (.ptr 3 0))), (9, (aV f M)), (78, .t (.one (.ptr 3 1))), (84, (fD f M)), (85, (aV f M))], [(bI f M), (aU f M), (bJ f M), (bO f M), (bN f M)], 91, [], LP.top⟩
def xJ (f : aj) (M : ah) : AS := ⟨[(2, .t (.one (.ptr 0 0))), (3, .t (.one (.ptr 1 0))), (4, .t (.one (.ptr 2 0))), (6, .t (.one (.ptr 3 0))), (9, (aV f M)), (79, (gF f M)), (84, (fD f M)), (85, (aV f M))], [(bI f M), (aU f M), (bJ f M), (bO f M), (bN f M)], 91, [], LP.top⟩
def yj (f : aj) (M : ah) : AS := ⟨[(2, .t (.one (.ptr 0 0))), (3, .t (.one (.ptr 1 0))), (4, .t (.one (.ptr 2 0))), (6, .t (.one (.ptr 3 0))), (9, (aV f M)), (80, (gD f M)), (84, (fD f M)), (85, (aV f M))], [(bI f M), (aU f M), (bJ f M), (bO f M), (bN f M)], 91, [], LP.top⟩
def wP (f : aj) (M : ah) : AS := ⟨[(2, .t (.one (.ptr 0 0))), (3, .t (.one (.ptr 1 0))), (4, .t (.one (.ptr 2 0))), (6, .t (.one (.ptr 3 0))), (9, (aV f M)), (78, .t (.one (.ptr 3 1))), (80, (gD f M)), (84, (fD f M)), (85, (aV f M))], [(bI f M), (aU f M), (bJ f M), (bO f M), (bN f M)], 91, [], LP.top⟩
def vW (f : aj) (M : ah) : AS := ⟨[(2, .t (.one (.ptr 0 0))), (3, .t (.one (.ptr 1 0))), (4, .t (.one (.ptr 2 0))), (6, .t (.one (.ptr 3 0))), (9, (aV f M)), (79, (gF f M)), (80, (gD f M)), (84, (fD f M)), (85, (aV f M))], [(bI f M), (aU f M), (bJ f M), (bO f M), (bN f M)], 91, [], LP.top⟩
def xY (f : aj) (M : ah) : AS := ⟨[(2, .t (.one (.ptr 0 0))), (3, .t (.one (.ptr 1 0))), (4, .t (.one (.ptr 2 0))), (6, .t (.one (.ptr 3 0))), (9, (aV f M)), (81, .t (.one (.slc 8 0 1 7))), (84, (fD f M)), (85, (aV f M))], [(bI f M), (aU f M), (bJ f M), (bO f M), (bN f M), none, none, none, (aU f M)], 91, [], LP.top⟩
def yh (f : aj) (M : ah) : AS := ⟨[(2, .t (.one (.ptr 0 0))), (3, .t (.one (.ptr 1 0))), (4, .t (.one (.ptr 2 0))), (6, .t (.one (.ptr 3 0))), (9, (aV f M)), (78, .t (.one (.ptr 3 1))), (81, .t (.one (.slc 8 0 1 7))), (84, (fD f M)), (85, (aV f M))], [(bI f M), (aU f M), (bJ f M), (bO f M), (bN f M), none, none, none, (aU f M)], 91, [], LP.top⟩
def wo (f : aj) (M : ah) : AS := ⟨[(2, .t (.one (.ptr 0 0))), (3, .t (.one (.ptr 1 0))), (4, .t (.one (.ptr 2 0))), (6, .t (.one (.ptr 3 0))), (9, (aV f M)), (79, (gF f M)), (81, .t (.one (.slc 8 0 1 7))), (84, (fD f M)), (85, (aV f M))], [(bI f M), (aU f M), (bJ f M), (bO f M), (bN f M), none, none, none, (aU f M)], 91, [], LP.top⟩
def vK (f : aj) (M : ah) : AS := ⟨[(2, .t (.one (.ptr 0 0))), (3, .t (.one (.ptr 1 0))), (4, .t (.one (.ptr 2 0))), (6, .t (.one (.ptr 3 0))), (9, (aV f M)), (82, (pR f M)), (84, (fD f M)), (85, (aV f M))], [(bI f M), (aU f M), (bJ f M), (mV f M), (mM f M), none, none, none, (aU f M)], 91, [], LP.top⟩
def wu (f : aj) (M : ah) : AS := ⟨[(2, .t (.one (.ptr 0 0))), (3, .t (.one (.ptr 1 0))), (4, .t (.one (.ptr 2 0))), (6, .t (.one (.ptr 3 0))), (9, (aV f M)), (86, (jI f M))], [(bI f M), (aU f M), (bJ f M), (bO f M), (bN f M)], 91, [], LP.top⟩
def xU (f : aj) (M : ah) : AS := ⟨[(2, .t (.one (.ptr 0 0))), (3, .t (.one (.ptr 1 0))), (4, .t (.one (.ptr 2 0))), (6, .t (.one (.ptr 3 0))), (9, (aV f M)), (78, .t (.one (.ptr 3 1))), (86, (jI f M))], [(bI f M), (aU f M), (bJ f M), (bO f M), (bN f M)], 91, [], LP.top⟩
def xH (f : aj) (M : ah) : AS := ⟨[(2, .t (.one (.ptr 0 0))), (3, .t (.one (.ptr 1 0))), (4, .t (.one (.ptr 2 0))), (6, .t (.one (.ptr 3 0))), (9, (aV f M)), (79, (gF f M)), (86, (jI f M))], [(bI f M), (aU f M), (bJ f M), (bO f M), (bN f M)], 91, [], LP.top⟩
def xO (f : aj) (M : ah) : AS := ⟨[(2, .t (.one (.ptr 0 0))), (3, .t (.one (.ptr 1 0))), (4, .t (.one (.ptr 2 0))), (6, .t (.one (.ptr 3 0))), (9, (aV f M)), (80, (gD f M)), (86, (jI f M))], [(bI f M), (aU f M), (bJ f M), (bO f M), (bN f M)], 91, [], LP.top⟩
def xX (f : aj) (M : ah) : AS := ⟨[(2, .t (.one (.ptr 0 0))), (3, .t (.one (.ptr 1 0))), (4, .t (.one (.ptr 2 0))), (6, .t (.one (.ptr 3 0))), (9, (aV f M)), (78, .t (.one (.ptr 3 1))), (80, (gD f M)), (86, (jI f M))], [(bI f M), (aU f M), (bJ f M), (bO f M), (bN f M)], 91, [], LP.top⟩
def yt (f : aj) (M : ah) : AS := ⟨[(2, .t (.one (.ptr 0 0))), (3, .t (.one (.ptr 1 0))), (4, .t (.one (.ptr 2 0))), (6, .t (.one (.ptr 3 0))), (9, (aV f M)), (79, (gF f M)), (80, (gD f M)), (86, (jI f M))], [(bI f M), (aU f M), (bJ f M), (bO f M), (bN f M)], 91, [], LP.top⟩
def xq (f : aj) (M : ah) : AS := ⟨[(2, .t (.one (.ptr 0 0))), (3, .t (.one (.ptr 1 0))), (4, .t (.one (.ptr 2 0))), (6, .t (.one (.ptr 3 0))), (9, (aV f M)), (81, .t (.one (.slc 8 0 1 7))), (86, (jI f M))], [(bI f M), (aU f M), (bJ f M), (bO f M), (bN f M), none, none, none, (aU f M)], 91, [], LP.top⟩
def yw (f : aj) (M : ah) : AS := ⟨[(2, .t (.one (.ptr 0 0))), (3, .t (.one (.ptr 1 0))), (4, .t (.one (.ptr 2 0))), (6, .t (.one (.ptr 3 0))), (9, (aV f M)), (78, .t (.one (.ptr 3 1))), (81, .t (.one (.slc 8 0 1 7))), (86, (jI f M))], [(bI f M), (aU f M), (bJ f M), (bO f M), (bN f M), none, none, none, (aU f M)], 91, [], LP.top⟩
def xG (f : aj) (M : ah) : AS := ⟨[(2, .t (.one (.ptr 0 0))), (3, .t (.one (.ptr 1 0))), (4, .t (.one (.ptr 2 0))), (6, .t (.one (.ptr 3 0))), (9, (aV f M)), (79, (gF f M)), (81, .t (.one (.slc 8 0 1 7))), (86, (jI f M))], [(bI f M), (aU f M), (bJ f M), (bO f M), (bN f M), none, none, none, (aU f M)], 91, [], LP.top⟩
def vB (f : aj) (M : ah) : AS := ⟨[(2, .t (.one (.ptr 0 0))), (3, .t (.one (.ptr 1 0))), (4, .t (.one (.ptr 2 0))), (6, .t (.one (.ptr 3 0))), (9, (aV f M)), (82, (pR f M)), (86, (jI f M))], [(bI f M), (aU f M), (bJ f M), (mV f M), (mM f M), none, none, none, (aU f M)], 91, [], LP.top⟩
def rG (f : aj) (M : ah) : AS := ⟨[(2, .t (.one (.ptr 0 0))), (3, .t (.one (.ptr 1 0))), (4, .t (.one (.ptr 2 0))), (6, .t (.one (.ptr 3 0))), (9, (aV f M)), (87, .t (.one (.slc 4 0 (f.n + 1) 7)))], [(bI f M), (aU f M), (bJ f M), (mV f M), some (gQ (JV f M)), none, none, none, (aU f M)], 91, [], LP.top⟩
def rD (f : aj) (M : ah) : AS := ⟨[(2, .t (.one (.ptr 0 0))), (3, .t (.one (.ptr 1 0))), (4, .t (.one (.ptr 2 0))), (6, .t (.one (.ptr 3 0))), (9, (aV f M)), (87, .t (.one (.slc 4 0 (f.n + 1) 7))), (88, .t (.one (.ptr 3 1)))], [(bI f M), (aU f M), (bJ f M), (mV f M), some (gQ (JV f M)), none, none, none, (aU f M)], 91, [], LP.top⟩
def rU (f : aj) (M : ah) : AS := ⟨[(4, .t (.one (.ptr 2 0))), (6, .t (.one (.ptr 3 0)))], [(bI f M), (aU f M), (bJ f M), some [.iv (.lst 13 f.k (ji f.S)), .slc 4 0 (f.n + 1) 7], some (gQ (JV f M)), none, none, none, (aU f M)], 91, [], LP.top⟩
def cO (f : aj) (M : ah) (m : Nat) : AS := if m = 0 then zW f M else if m = 1 then EI f M else if m = 3 then FX f M else if m = 4 then F4 f M else if m = 5 then Er f M else if m = 7 then FI f M else if m = 12 then CW f M else if m = 13 then Bc f M else if m = 15 then CF f M else if m = 31 then Ci f M else if m = 32 then BN f M else if m = 33 then Bv f M else if m = 35 then Ca f M else if m = 36 then BG f M else if m = 37 then AP f M else if m = 39 then CK f M else if m = 44 then AB f M else if m = 45 then Aa f M else if m = 47 then BX f M else if m = 63 then BP f M else if m = 96 then CZ f M else if m = 97 then BA f M else if m = 99 then BI f M else if m = 100 then xg f M else if m = 101 then vZ f M else if m = 103 then vJ f M else if m = 108 then x9 f M else if m = 109 then yg f M else if m = 111 then vQ f M else if m = 127 then wN f M else if m = 128 then wR f M else if m = 129 then vG f M else if m = 131 then wX f M else if m = 132 then wW f M else if m = 133 then wT f M else if m = 135 then wz f M else if m = 140 then wM f M else if m = 141 then yc f M else if m = 143 then wG f M else if m = 159 then wB f M else if m = 160 then vT f M else if m = 161 then wI f M else if m = 163 then yu f M else if m = 164 then wU f M else if m = 165 then vI f M else if m = 167 then vD f M else if m = 172 then vV f M else if m = 173 then vo f M else if m = 175 then xw f M else if m = 191 then vH f M else if m = 224 then vY f M else if m = 225 then vS f M else if m = 227 then xJ f M else if m = 228 then yj f M else if m = 229 then wP f M else if m = 231 then vW f M else if m = 236 then xY f M else if m = 237 then yh f M else if m = 239 then wo f M else if m = 255 then vK f M else if m = 480 then wu f M else if m = 481 then xU f M else if m = 483 then xH f M else if m = 484 then xO f M else if m = 485 then xX f M else if m = 487 then yt f M else if m = 492 then xq f M else if m = 493 then yw f M else if m = 495 then xG f M else if m = 511 then vB f M else if m = 1023 then rG f M else if m = 2047 then rD f M else if m = 4095 then rU f M else zW f M
theorem acZ (f : aj) (M : ah) : cO f M 0 = zW f M := rfl
theorem ab6 (f : aj) (M : ah) : cO f M 1 = EI f M := rfl
theorem ac7 (f : aj) (M : ah) : cO f M 3 = FX f M := rfl
theorem Zo (f : aj) (M : ah) : cO f M 4 = F4 f M := rfl
theorem ab8 (f : aj) (M : ah) : cO f M 5 = Er f M := rfl
theorem YW (f : aj) (M : ah) : cO f M 7 = FI f M := rfl
theorem Tk (f : aj) (M : ah) : cO f M 12 = CW f M := rfl
theorem Wh (f : aj) (M : ah) : cO f M 13 = Bc f M := rfl
theorem X6 (f : aj) (M : ah) : cO f M 15 = CF f M := rfl
theorem VR (f : aj) (M : ah) : cO f M 31 = Ci f M := rfl
theorem TR (f : aj) (M : ah) : cO f M 32 = BN f M := rfl
theorem XQ (f : aj) (M : ah) : cO f M 33 = Bv f M := rfl
theorem Sn (f : aj) (M : ah) : cO f M 35 = Ca f M := rfl
theorem Wn (f : aj) (M : ah) : cO f M 36 = BG f M := rfl
theorem Vb (f : aj) (M : ah) : cO f M 37 = AP f M := rfl
theorem Ue (f : aj) (M : ah) : cO f M 39 = CK f M := rfl
theorem Vn (f : aj) (M : ah) : cO f M 44 = AB f M := rfl
theorem VD (f : aj) (M : ah) : cO f M 45 = Aa f M := rfl
theorem Sl (f : aj) (M : ah) : cO f M 47 = BX f M := rfl
theorem WQ (f : aj) (M : ah) : cO f M 63 = BP f M := rfl
theorem UK (f : aj) (M : ah) : cO f M 96 = CZ f M := rfl
theorem TP (f : aj) (M : ah) : cO f M 97 = BA f M := rfl
theorem YL (f : aj) (M : ah) : cO f M 99 = BI f M := rfl
theorem Rj (f : aj) (M : ah) : cO f M 100 = xg f M := rfl
theorem Pv (f : aj) (M : ah) : cO f M 101 = vZ f M := rfl
theorem Qq (f : aj) (M : ah) : cO f M 103 = vJ f M := rfl
theorem Rf (f : aj) (M : ah) : cO f M 108 = x9 f M := rfl
theorem Qs (f : aj) (M : ah) : cO f M 109 = yg f M := rfl
theorem Pw (f : aj) (M : ah) : cO f M 111 = vQ f M := rfl
theorem PL (f : aj) (M : ah) : cO f M 127 = wN f M := rfl
theorem PE (f : aj) (M : ah) : cO f M 128 = wR f M := rfl
theorem P5 (f : aj) (M : ah) : cO f M 129 = vG f M := rfl
theorem Qb (f : aj) (M : ah) : cO f M 131 = wX f M := rfl
theorem Qv (f : aj) (M : ah) : cO f M 132 = wW f M := rfl
theorem PW (f : aj) (M : ah) : cO f M 133 = wT f M := rfl
theorem Pt (f : aj) (M : ah) : cO f M 135 = wz f M := rfl
theorem RO (f : aj) (M : ah) : cO f M 140 = wM f M := rfl
theorem Rq (f : aj) (M : ah) : cO f M 141 = yc f M := rfl
theorem RS (f : aj) (M : ah) : cO f M 143 = wG f M := rfl
theorem RA (f : aj) (M : ah) : cO f M 159 = wB f M := rfl
theorem RG (f : aj) (M : ah) : cO f M 160 = vT f M := rfl
theorem Pq (f : aj) (M : ah) : cO f M 161 = wI f M := rfl
theorem PY (f : aj) (M : ah) : cO f M 163 = yu f M := rfl
theorem Qp (f : aj) (M : ah) : cO f M 164 = wU f M := rfl
theorem OX (f : aj) (M : ah) : cO f M 165 = vI f M := rfl
theorem Pp (f : aj) (M : ah) : cO f M 167 = vD f M := rfl
theorem QY (f : aj) (M : ah) : cO f M 172 = vV f M := rfl
theorem RF (f : aj) (M : ah) : cO f M 173 = vo f M := rfl
theorem OZ (f : aj) (M : ah) : cO f M 175 = xw f M := rfl
theorem Qy (f : aj) (M : ah) : cO f M 191 = vH f M := rfl
theorem Qf (f : aj) (M : ah) : cO f M 224 = vY f M := rfl
theorem Qx (f : aj) (M : ah) : cO f M 225 = vS f M := rfl
theorem PD (f : aj) (M : ah) : cO f M 227 = xJ f M := rfl
theorem QA (f : aj) (M : ah) : cO f M 228 = yj f M := rfl
theorem QC (f : aj) (M : ah) : cO f M 229 = wP f M := rfl
theorem PK (f : aj) (M : ah) : cO f M 231 = vW f M := rfl
theorem OY (f : aj) (M : ah) : cO f M 236 = xY f M := rfl
theorem Rt (f : aj) (M : ah) : cO f M 237 = yh f M := rfl
theorem Rh (f : aj) (M : ah) : cO f M 239 = wo f M := rfl
theorem Rs (f : aj) (M : ah) : cO f M 255 = vK f M := rfl
theorem OH (f : aj) (M : ah) : cO f M 480 = wu f M := rfl
theorem PG (f : aj) (M : ah) : cO f M 481 = xU f M := rfl
theorem QL (f : aj) (M : ah) : cO f M 483 = xH f M := rfl
theorem Q8 (f : aj) (M : ah) : cO f M 484 = xO f M := rfl
theorem RB (f : aj) (M : ah) : cO f M 485 = xX f M := rfl
theorem QN (f : aj) (M : ah) : cO f M 487 = yt f M := rfl
theorem Rx (f : aj) (M : ah) : cO f M 492 = xq f M := rfl
theorem RL (f : aj) (M : ah) : cO f M 493 = yw f M := rfl
theorem Qg (f : aj) (M : ah) : cO f M 495 = xG f M := rfl
theorem Q9 (f : aj) (M : ah) : cO f M 511 = vB f M := rfl
theorem K5 (f : aj) (M : ah) : cO f M 1023 = rG f M := rfl
theorem KS (f : aj) (M : ah) : cO f M 2047 = rD f M := rfl
theorem KJ (f : aj) (M : ah) : cO f M 4095 = rU f M := rfl
attribute [go_sem] aV bI aU bJ bO bN gF gD pR mV mM fD jI Zf zW acZ acF EI ab6 abz FX ac7 acz F4 Zo Zl Er ab8 Y6 FI YW Wd CW Tk Ux Bc Wh Td CF X6 Sg Ci VR WG BN TR Vu Bv XQ V9 Ca Sn Vg BG Wn VK AP Vb WJ CK Ue Vz AB Vn Wm Aa VD Ut BX Sl Ud BP WQ Xb CZ UK SA BA TP X7 BI YL Qk xg Rj O6 vZ Pv OJ vJ Qq PX x9 Rf Qo yg Qs OO vQ Pw PS wN PL Pg wR PE Qu vG P5 OI wX Qb OW wW Qv RD wT PW Pb wz Pt QE wM RO O8 yc Rq Oy wG RS QG wB RA QM vT RG Po wI Pq QF yu PY OQ wU Qp OV vI OX Qt vD Pp QB vV QY O9 vo RF QH xw OZ OP vH Qy Px vY Qf Ph vS Qx Qe xJ PD OG yj QA Qm wP QC OM vW PK OA xY OY QV yh Rt Q5 wo Rh QJ vK Rs Qw wu OH Rp xU PG QU xH QL Ry xO Q8 PO xX RB PU yt QN Qc xq Rx PZ yw RL QX xG Qg Pm vB Q9 Mc rG K5 Kr rD KS Kn rU KJ
end Go.Proofs.YtcfechepbamhkaaGreat
namespace Go.Proofs.YtcfechepbamhkaaGreat
open Go.RowKit Go.Sea
open Nat renaming reduceAdd -> xA, reduceLT -> xL, reduceLeDiff -> xD, reduceEqDiff -> xE, reduceMul -> xM, reduceSub -> xS, reduceBEq -> xB
def knB (n : Nat) (N : Nat -> ah) (ch x : Int) : Bool := (List.range n).any fun i => decide ((N i).nu = x) && mU (N i) ch
end Go.Proofs.YtcfechepbamhkaaGreat
namespace Go.Proofs.YtcfechepbamhkaaGreat
open Go.RowKit Go.Sea Go.Lib
theorem kQ : Tryz.prog.underlying 23 = some (.slice 28) := by kernel_rfl
theorem adP : (Tryz.prog.info? 28).map (fun i => (i.size, i.bytes, i.zero.map (·.cells.size))) = some (7, 72, some 7) := by kernel_rfl
set_option maxHeartbeats 4000000 in
set_option maxRecDepth 100000 in
set_option maxHeartbeats 2000000 in
theorem Me (cap : Nat) (w : World) : Calls Tryz.prog 43 #[.slice none 0 cap] w fun e w' => e = .returned (.slice none 0 0) /\ w' = w := by
  have q : (binOp .eql 23 (.slice none 0 cap) (.slice none 0 0)).run Tryz.prog w = .ok (.bool true) w := run_eql_slice_nil w 23 28 none 0 cap kQ
  go_enter Tryz.func43, Tryz.ntmps43
  go_wp2
  go_ret
  exact ⟨rfl, rfl⟩
set_option maxHeartbeats 4000000 in
set_option maxRecDepth 100000 in
theorem yE (p : Addr) (n cap : Nat) (w w' : World) (u : Value) (h : ∀ ty, (Builtin.append_ #[23,23] ty #[.slice (some ⟨w.heap.size, 0, none⟩) 0 0, .slice (some p) n cap]).run Tryz.prog (w.alloc (.cells #[] 28)) = .ok u w') : Calls Tryz.prog 43 #[.slice (some p) n cap] w fun e w'' => e = .returned u /\ w'' = w' := by
  have q : (binOp .eql 23 (.slice (some p) n cap) (.slice none 0 0)).run Tryz.prog w = .ok (.bool false) w := run_eql_slice_nil w 23 28 (some p) n cap kQ
  go_enter Tryz.func43, Tryz.ntmps43
  go_wp2_with (at_builtin; refine Lib.wpList_append_run _ rfl _ _ _ _ rfl _ _ rfl rfl _ _ (h _) ?_)
  all_goals (go_ret; exact ⟨rfl, rfl⟩)
set_option maxHeartbeats 2000000 in
theorem TD (n : Nat) (f : Nat -> Nat -> IV) (hn : n <= 1000) : lQ Tryz.prog 43 [.one (.iv (.lst 7 n f))] (dZ f 7 n 0) (fun i => .t (.one (.slc i 0 n 7))) := by
  intro H i hH w0 Z0 J Z s a w vs R hs hv
  subst hs
  obtain ⟨vs⟩ := vs
  match vs, hv with
  | [v], ⟨hv, _⟩ =>
    have hv : Rd w Z v (.lst 7 n f) := hv
    have hlen : (dZ f 7 n 0).length = n * 7 := fT f 7 n 0
    have empty : ∀ (p : Addr) (cap : Nat), n = 0 -> v = .slice (some p) 0 cap -> Calls Tryz.prog 43 #[v] w fun e w' => ∃ v J' Z', e = .returned v /\ Rel w0 Z0 J' Z' { s with heap := hset s.heap i (dZ f 7 n 0) } a w' /\ bq w' J' Z' v (.t (.one (.slc i 0 n 7))) := fun p cap h0 ev => by
      subst h0; subst ev
      obtain ⟨ii, h33⟩ : ∃ ii, Tryz.prog.info? 28 = some ii := by
        have := adP
        cases h : Tryz.prog.info? 28 with
        | none => rw [h] at this; cases this
        | some i => exact ⟨i, rfl⟩
      refine (yE p 0 cap w _ _ fun ty => gG kQ h33 _ _ 0 0 cap (Nat.le_refl _)).mono fun e w' ⟨he, hw⟩ => ?_
      subst hw
      have R1 := R.new (nid := i) (cs := []) (c := #[]) (e := 28) (H := hset s.heap i []) hH (aG _ _ _) (fun q hq => aH _ _ _ _ hq) (by simp [aQ])
      exact ⟨_, _, _, he, R1, Or.inr ⟨w.heap.size, 0, #[], 28, rfl, by simp [fM], Nat.zero_le _, Nat.zero_le _, heap_alloc_new w _, by simp⟩⟩
    have hv0 := hv
    cases hv with
    | nil p cap =>
      cases p with
      | none =>
        refine (Me cap w).mono fun e w' ⟨he, hw⟩ => ?_
        subst hw
        exact ⟨_, J, Z, he, R.qj (nid := i) hH (by rw [aG]; rfl) (fun q hq => aH _ _ _ _ hq), Or.inl ⟨rfl, rfl⟩⟩
      | some p => exact empty p cap rfl rfl
    | lst b off _ cap _ _ X hz hc hm h1 h2 =>
      by_cases h0 : n = 0
      · exact empty ⟨b, off, none⟩ cap h0 (by rw [h0])
      · obtain ⟨hR1, G⟩ := R.call (mJ w (.cells #[] 28))
        have hv1 : cu (w.alloc (.cells #[] 28)) J (fun b => Z b \/ (w.heap.size <= b /\ b < (w.alloc (.cells #[] 28)).heap.size)) (.slice (some ⟨b, off, none⟩) n cap) (.one (.iv (.lst 7 n f))) := bK.grow G (CV.bZ (.iv (.lst 7 n f))) hv0
        obtain ⟨ii, z, t1, t2, t3, t4, t5, t6, t7⟩ := gH (P := Tryz.prog) (t := 23) (e := 28) (n := 7) (b := 72) (by kernel_rfl)
        rcases jR hR1 (size := 7) (m := n) (nd := True) (x := .one (.iv (.lst 7 n f))) (ns := dZ f 7 n 0) (by simp [wF]) trivial hv1 with ⟨h, _⟩ | ⟨hpos, b2, off2, cap2, news, e2, n1, n2, n3, n4⟩
        · exact absurd h h0
        · cases e2
          have hrun := fun ty => run_append_grow (P := Tryz.prog) (w.alloc (.cells #[] 28)) 23 ty 28 ii z t1 t2 t3 ⟨w.heap.size, 0, none⟩ 0 0 [] (by simp) (fun j v h => by simp at h) ⟨b, off, none⟩ n cap news (by rw [n1, t5]) n2 (by omega) (by omega) (by
            rw [t6]; exact growslice_fits (by omega) (by omega))
          simp only [Nat.zero_add] at hrun
          have hsz := grownCap_ge (w.alloc (.cells #[] 28)) n 0 28
          have hmx := grownCap_le_maxLen (w.alloc (.cells #[] 28)) n 0 28 (by unfold maxLen; omega)
          generalize grownCap (w.alloc (.cells #[] 28)) n 0 28 = G at hrun hsz hmx
          have hC : G * 7 <= (([] : List Value).toArray ++ news.toArray ++ Builtin.zeroCells z.cells (G - n)).size := by
            simp only [Array.size_append, size_zeroCells, t4, List.size_toArray, n1, List.length_nil]
            omega
          have hD : aQ (bK (w.alloc (.cells #[] 28)) J (fun b => Z b \/ (w.heap.size <= b /\ b < (w.alloc (.cells #[] 28)).heap.size))) ((([] : List Value).toArray ++ news.toArray ++ Builtin.zeroCells z.cells (G - n)).toList.take (dZ f 7 n 0).length) (dZ f 7 n 0) := by
            rw [Array.toList_append, Array.toList_append, List.nil_append, List.take_append_of_le_length (by simp; omega), List.take_of_length_le (by simp; omega)]
            exact n4
          generalize ([] : List Value).toArray ++ news.toArray ++ Builtin.zeroCells z.cells (G - n) = C at hrun hC hD
          have cl := yE ⟨b, off, none⟩ n cap w _ _ hrun
          have R2 := (hR1.drew).new (nid := i) (cs := dZ f 7 n 0) (c := C) (e := 28) (H := hset s.heap i (dZ f 7 n 0)) hH (aG _ _ _) (fun q hq => aH _ _ _ _ hq) (lD hD)
          have hA := heap_alloc_new (w.alloc (.cells #[] 28)).drew (.cells C 28)
          generalize hw1 : w.alloc (.cells #[] 28) = w1 at cl R2 hA
          refine cl.mono fun e w' ⟨he, hw⟩ => ?_
          subst hw
          exact ⟨_, _, _, he, R2, Or.inr ⟨_, _, _, 28, rfl, by simp [fM], hsz, hmx, hA, by rw [Nat.zero_add]; exact hC⟩⟩
end Go.Proofs.YtcfechepbamhkaaGreat
set_option maxRecDepth 100000
namespace Go.Sea
open Go.RowKit Go.Sea
def akt (P : Program) (o : Oper) (s s' : AS) : Prop := o.guard = none /\ ((∀ c, o.op ≠ .defer c) -> ∀ (w0 : World) (Z0 : Fr) (a : Act) (w : World) (K : Act -> World -> Prop) (Q : Exit -> Act -> World -> Prop) (n : Nat), lK w0 Z0 s a w -> (∀ a' w', lK w0 Z0 s' a' w' -> K a' w') -> o.wpIn (fo Z0.ro) n P a w K Q)
def RX (P : Program) : Option Oper -> AS -> AS -> Prop
  | some o, s, s' => akt P o s s'
  | none, _, _ => False
def LH (P : Program) (os : List Oper) (G : Nat -> AS) : List (Nat × Nat × Nat) -> Prop
  | [] => True
  | (m, i, m') :: r => RX P (jP os i) (G m) (G m') /\ LH P os G r
theorem RU {P : Program} {os : List Oper} {G : Nat -> AS} : LH P os G [] := trivial
theorem Kj {P : Program} {os : List Oper} {G : Nat -> AS} {m i m' : Nat} {r : List (Nat × Nat × Nat)} (h : RX P (jP os i) (G m) (G m')) (h2 : LH P os G r) : LH P os G ((m, i, m') :: r) := ⟨h, h2⟩
theorem Nt {P : Program} {os : List Oper} {G : Nat -> AS} {m i m' : Nat} : ∀ {Es : List (Nat × Nat × Nat)}, (m, i, m') ∈ Es -> LH P os G Es -> RX P (jP os i) (G m) (G m')
  | (_, _, _) :: r, h, hr => by
    rcases List.mem_cons.1 h with e | h
    · cases e; exact hr.1
    · exact Nt h hr.2
theorem agO {P : Program} {os : List Oper} {n0 i : Nat} {L : List Nat} {s s' : AS} (h : ∀ K : AS -> Prop, (∀ s2 : AS, Leaf ⟨bD s2.env L, s2.heap, s2.N, s2.gh, s2.lp⟩ s' -> K s2) -> JX P n0 i s K (jP os i)) : RX P (jP os i) s s' := by
  have hop := h _ fun _ h => h
  cases ho : jP os i with
  | none => rw [ho] at hop; exact hop.elim
  | some o =>
    rw [ho] at hop
    obtain ⟨hg, hop⟩ := hop
    refine ⟨hg, fun hdo w0 Z0 a w K Q n R' hK => ?_⟩
    split at hop
    · rename_i nd v ef hof
      obtain ⟨hh, hdst, hnd, hrun⟩ := hop
      obtain ⟨J, Z, R'⟩ := R'
      exact dW (dS _) hdo (qA (lC R' hh hof hnd) fun J' w' u R'' hr' => hK _ _ (uf hrun ⟨J', Z, R''.put (fun k e => by rw [D9]; exact dQ hdst k e) hr'⟩))
    · exact hop.elim
def Nq (P : Program) (s : AS) (K : AS -> Prop) : Option Oper -> Prop
  | some o => o.guard = none /\ gq s o.dst /\ kr P [] o [] s K
  | none => False
theorem LM (P : Program) (s : AS) (K : AS -> Prop) (o : Oper) : Nq P s K (some o) = (o.guard = none /\ gq s o.dst /\ kr P [] o [] s K) := rfl
theorem SL {P : Program} {os : List Oper} {i : Nat} {L : List Nat} {s s' : AS} (h : ∀ K : AS -> Prop, (∀ s2 : AS, Leaf ⟨bD s2.env L, s2.heap, s2.N, s2.gh, s2.lp⟩ s' -> K s2) -> Nq P s K (jP os i)) : RX P (jP os i) s s' := by
  have hop := h _ fun _ h => h
  cases ho : jP os i with
  | none => rw [ho] at hop; exact hop.elim
  | some o =>
    rw [ho] at hop
    obtain ⟨hg, hd, hop⟩ := hop
    refine ⟨hg, fun hdo w0 Z0 a w K Q n R' hK => ?_⟩
    obtain ⟨J, Z, R'⟩ := R'
    refine iB (K := fun s2 => Leaf ⟨bD s2.env L, s2.heap, s2.N, s2.gh, s2.lp⟩ s') R' hd ?_ fun s2 a' w' R2 hk => hK _ _ (uf hk R2)
    exact hop
theorem Zm {P : Program} {os : List Oper} {n0 : Nat} {L : Nat -> List Nat} {G : Nat -> AS} {m i m' : Nat} (h : ∀ K : AS -> Prop, (∀ s2 : AS, Leaf ⟨bD s2.env (L m'), s2.heap, s2.N, s2.gh, s2.lp⟩ (G m') -> K s2) -> JX P n0 i (G m) K (jP os i)) : RX P (jP os i) (G m) (G m') := agO h
theorem PI {P : Program} {os : List Oper} {L : Nat -> List Nat} {G : Nat -> AS} {m i m' : Nat} (h : ∀ K : AS -> Prop, (∀ s2 : AS, Leaf ⟨bD s2.env (L m'), s2.heap, s2.N, s2.gh, s2.lp⟩ (G m') -> K s2) -> Nq P (G m) K (jP os i)) : RX P (jP os i) (G m) (G m') := SL h
attribute [go_sem] LM
theorem Kc {P : Program} {s : AS} {Q : Exit -> AS -> Prop} {id : Nat} {ops : Array Oper} (mf : Nat) (Ms : List Nat) (Es : List (Nat × Nat × Nat)) (L : List Nat) (G : Nat -> AS) (hm : P.follows .mixedOrders = true) (hback : qg .any ops = true) (hd : iO ops = true) (hc : (ajY ops Ms Es && alL ops Ms mf) = true)
    (h0 : Leaf ⟨bD s.env L, s.heap, s.N, s.gh, s.lp⟩ (G 0)) (h : LH P ops.toList G Es) (hq : Q .normal (G mf)) : AW P (.region id ops true) s Q := fun w0 Z0 a w n R => by
  simp only [ajY, Bool.and_eq_true] at hc
  refine oq (dS _) (fun _ D a w => ∃ m, m ∈ Ms /\ (∀ k, D k = true ↔ m.testBit k = true) /\ lK w0 Z0 (G m) a w) hm hd hback ?_ ?_ fun D a w hD ⟨m, hmm, hDm, R'⟩ => ?_
  · obtain ⟨J, Z, R⟩ := uf h0 R
    exact ⟨0, by simpa using hc.1.1, fun k => by simp, J, Z, R.drew⟩
  · refine jS.of ops.toList 0 fun i o ho D a w ⟨m, hmm, hDm, R'⟩ hDi hpre hcl K hK => ?_
    rw [Nat.zero_add] at hDi
    simp only [Nat.zero_add] at hK
    have hoi : ops[i]? = some o := by rw [<- Array.getElem?_toList]; exact ho
    have hi : i < ops.size := (Array.getElem?_eq_some_iff.1 hoi).1
    have hid : m.testBit i = false := by
      cases hh : m.testBit i with
      | false => rfl
      | true => have := (hDm i).2 hh; rw [hDi] at this; cases this
    have hrdy : afR ops m i = true := by
      unfold afR
      rw [hid, hoi]
      simp only [Bool.not_false, Bool.true_and]
      refine List.all_eq_true.2 fun e he => ?_
      have := List.all_eq_true.1 hpre e he
      cases hb : Region.binds .any e with
      | false => rfl
      | true =>
        rw [hb] at this
        simp only [Bool.not_true, Bool.false_or] at this ⊢
        exact (hDm e.on).1 this
    have hE := List.all_eq_true.1 (List.all_eq_true.1 hc.1.2 m hmm) i (List.mem_range.2 hi)
    rw [hrdy] at hE
    simp only [Bool.not_true, Bool.false_or, Bool.and_eq_true, List.contains_iff_mem] at hE
    have hop := Nt hE.1 h
    rw [Iz, Array.getElem?_toList, hoi] at hop
    obtain ⟨hg, hop⟩ := hop
    have hw : Region.wanted o (yielded ops a.tmps) = true := by simp [Region.wanted, hg]
    rw [if_pos hw]
    refine hop (su hd hoi) w0 Z0 a w _ _ _ R' fun a' w' R2 => hK _ _ ⟨m ||| 2 ^ i, hE.2, fun k => ?_, R2⟩
    rw [Nat.testBit_or, Nat.testBit_two_pow]
    by_cases hk : k = i
    · subst hk; simp [upd]
    · rw [upd_ne D hk, decide_eq_false (fun e => hk e.symm), Bool.or_false]; exact hDm k
  · have hf := List.all_eq_true.1 hc.2 m hmm
    simp only [Bool.or_eq_true, beq_iff_eq] at hf
    rcases hf with hf | rfl
    · obtain ⟨i, h1, h2⟩ := List.any_eq_true.1 hf
      have := (hDm i).1 (hD i (List.mem_range.1 h1))
      rw [this] at h2; cases h2
    · exact ⟨G m, R', hq⟩
end Go.Sea
namespace Go.Proofs.YtcfechepbamhkaaGreat
open Go.RowKit Go.Sea Go.Lib
theorem qI {P : Program} (E : Nat) (w : World) (dT sT ty elem : TypeId) (g o dLen dCap : Nat) (a : Addr) (sLen sCap : Nat) (cur : Array Value) (t : TypeId) (cs : List Value)
    (hu : P.underlying dT = some (.slice elem)) (hs : (P.info? elem).map (·.size) = some E) (hg : w.heap[g]? = some (.cells cur t (0, 0))) (hn : cs.length = Nat.min sLen dLen * E)
    (hsrc : ∀ j v, cs[j]? = some v -> w.cell? (a.add j) = some v) (hfit : o + cs.length <= cur.size) (h1 : ∀ v ∈ cs, v.oneCell' = true) :
    (Builtin.copy_ #[dT, sT] ty #[.slice (some ⟨g, o, none⟩) dLen dCap, .slice (some a) sLen sCap]).run P w = .ok (goInt (Nat.min sLen dLen)) (w.setRow g (cur.toList.take o ++ cs ++ cur.toList.drop (o + cs.length)).toArray) := by
  have hl := run_loadCells_list (P := P) w a cs hsrc
  have hst := run_storeCells_at P g o t cs 0 cur w hg (by simpa using hfit) h1
  cases hq : P.info? elem with
  | none => simp [hq] at hs
  | some i =>
    have hi : i.size = E := by simpa [hq] using hs
    simp [Builtin.copy_, run_underlying hu, Builtin.lenOf, Builtin.firstCells, sizeOf, typeInfo, hq, hi, <- hn, hl, hst]
theorem M5 : ∃ i z, Tryz.prog.info? 28 = some i /\ i.zero = some z /\ i.size = 7 /\ i.bytes = 72 /\ z.cells.size = 7 := by
  have h := adP
  cases hi : Tryz.prog.info? 28 with
  | none => rw [hi] at h; cases h
  | some i =>
    rw [hi] at h
    simp only [Option.map_some, Option.some.injEq, Prod.mk.injEq] at h
    cases hz : i.zero with
    | none => rw [hz] at h; simp at h
    | some z => rw [hz] at h; exact ⟨i, z, rfl, hz, h.1, h.2.1, by simpa using h.2.2⟩
theorem Om : (Tryz.prog.info? 28).map (·.size) = some 7 := by
  obtain ⟨i, z, h, _, hs, _⟩ := M5
  rw [h]; simp [hs]
theorem qz {l : List Value} {cs : List Value} {o k : Nat} (h : o + cs.length <= l.length) : (l.take o ++ cs ++ l.drop (o + cs.length))[k]? = if o <= k /\ k < o + cs.length then cs[k - o]? else l[k]? := by
  by_cases h1 : k < o
  · rw [if_neg (by omega), List.append_assoc, List.getElem?_append_left (by simp; omega), List.getElem?_take, if_pos h1]
  · by_cases h2 : k < o + cs.length
    · rw [if_pos (by omega), List.append_assoc, List.getElem?_append_right (by simp; omega), List.getElem?_append_left (by simp; omega)]
      congr 1; simp; omega
    · rw [if_neg (by omega), List.getElem?_append_right (by simp; omega), List.getElem?_drop]
      congr 1; simp; omega
theorem Ns {cs vs c c1 c2 : List Value} {m n p : Nat} (hc : cs.length = n) (hv : vs.length = m) (hp : p <= n) (h1 : c.length = c1.length) (h2 : c1.length = c2.length) (hn : n + m <= c2.length) (h : ∀ k, k < p -> c[k]? = cs[k]?)
    (e1 : ∀ k, c1[k]? = if p + m <= k /\ k < p + m + (n - p) then (cs.drop p)[k - (p + m)]? else c[k]?) (e2 : ∀ k, c2[k]? = if p <= k /\ k < p + m then vs[k - p]? else c1[k]?) : c2.take (n + m) = cs.take p ++ vs ++ cs.drop p := by
  refine List.ext_getElem? fun k => ?_
  rw [List.getElem?_take]
  by_cases hk : k < n + m
  · rw [if_pos hk, e2, List.append_assoc]
    by_cases k1 : k < p
    · rw [if_neg (by omega), e1, if_neg (by omega), h k k1, List.getElem?_append_left (by simp; omega), List.getElem?_take, if_pos k1]
    · by_cases k2 : k < p + m
      · rw [if_pos (by omega), List.getElem?_append_right (by simp; omega), List.getElem?_append_left (by simp; omega)]
        congr 1; simp; omega
      · rw [if_neg (by omega), e1, if_pos (by omega), List.getElem?_append_right (by simp; omega), List.getElem?_append_right (by simp; omega)]
        congr 1; simp; omega
  · rw [if_neg hk, List.getElem?_eq_none (by simp; omega)]
theorem Us {cs vs c c1 c2 : List Value} {m n p : Nat} (hc : cs.length = n) (hv : vs.length = m) (hp : p <= n) (h1 : c.length = c1.length) (h2 : c1.length = c2.length) (hn : n + m <= c2.length) (h : ∀ k, k < p -> c[k]? = cs[k]?)
    (e1 : ∀ k, c1[k]? = if p <= k /\ k < p + m then vs[k - p]? else c[k]?) (e2 : ∀ k, c2[k]? = if p + m <= k /\ k < p + m + (n - p) then (cs.drop p)[k - (p + m)]? else c1[k]?) : c2.take (n + m) = cs.take p ++ vs ++ cs.drop p := by
  refine Ns (c1 := (c.take (p + m) ++ cs.drop p ++ c.drop (p + m + (n - p)))) hc hv hp (by simp; omega) (by simp; omega) hn h (fun k => ?_) (fun k => ?_)
  · have := qz (l := c) (cs := cs.drop p) (o := p + m) (k := k) (by simp; omega)
    simp only [List.length_drop, hc] at this
    exact this
  · have := qz (l := c) (cs := cs.drop p) (o := p + m) (k := k) (by simp; omega)
    simp only [List.length_drop, hc] at this
    rw [e2, e1, this]
    by_cases k1 : p <= k /\ k < p + m
    · rw [if_neg (by omega), if_pos k1, if_pos k1]
    · rw [if_neg k1, if_neg k1]
theorem Jp {w : World} {b : Nat} {c : Array Value} {e : TypeId} {k : Nat} (hb : w.heap[b]? = some (.cells c e (0, 0))) : w.cell? ⟨b, k, none⟩ = c[k]? := cell_of_row w b k c e _ hb
set_option maxHeartbeats 4000000 in
set_option maxRecDepth 100000 in
theorem Km (b n cap i vb vc : Nat) (c V : Array Value) (e eV : TypeId) (w : World) (hi : i < n) (hroom : n + 1 <= cap) (hc63 : cap <= 9223372036854775807) (hvb : vb ≠ b)
    (hb : w.heap[b]? = some (.cells c e (0, 0))) (hv : w.heap[vb]? = some (.cells V eV (0, 0))) (hcs : cap * 7 <= c.size) (hVs : 7 <= V.size) (h1 : ∀ v ∈ c.toList.take (n * 7), v.oneCell' = true) (h1v : ∀ v ∈ V.toList.take 7, v.oneCell' = true) :
    Calls Tryz.prog 42 #[.slice (some ⟨b, 0, none⟩) n cap, .int .i64 i, .slice (some ⟨vb, 0, none⟩) 1 vc] w fun x w' =>
      x = .returned (.slice (some ⟨b, 0, none⟩) (n + 1) cap) /\ ∃ C : Array Value, w' = w.drew.setRow b C /\ C.size = c.size /\ C.toList.take (n * 7 + 7) = (c.toList.take (n * 7)).take (i * 7) ++ V.toList.take 7 ++ (c.toList.take (n * 7)).drop (i * 7) := by
  have u0 := run_underlying kQ
  have hz2 : ¬ ((i : Int) = (n : Int)) := by omega
  have mixed : Tryz.prog.follows .mixedOrders = true := by kernel_rfl
  have hov : ∀ o lb cb, (callFunc 86 #[.slice (some ⟨vb, 0, none⟩) 1 vc, .slice (some ⟨b, o, none⟩) lb cb]).run Tryz.prog w = .ok (.value (.bool false)) w := fun o lb cb => by
    rw [run_callFunc_extern Tryz.func86 (by kernel_rfl) (by kernel_rfl) (by kernel_rfl) (e := Extern.SlicesOverlaps.overlaps #[23, 23] #[4]) (by kernel_rfl),
      Lib.run_overlaps_apart w 23 4 28 kQ 7 (fun w => by obtain ⟨ii, z, h, _, hs, _⟩ := M5; simp [Go.sizeOf, typeInfo, h, hs]) ⟨vb, 0, none⟩ ⟨b, o, none⟩ 1 vc lb cb hvb eV e V.size c.size (by simp [World.shape?, hv]) (by simp [World.shape?, hb]) (by omega) (by simp [World.frozen?, hv]) (by simp [World.frozen?, hv])]
    rfl
  obtain ⟨cs, hcsd⟩ : ∃ cs, cs = c.toList.take (n * 7) := ⟨_, rfl⟩
  have hcl : cs.length = n * 7 := by rw [hcsd]; simp; omega
  obtain ⟨C1, hC1⟩ : ∃ C1 : Array Value, C1 = (c.toList.take (i * 7 + 7) ++ cs.drop (i * 7) ++ c.toList.drop (i * 7 + 7 + (cs.drop (i * 7)).length)).toArray := ⟨_, rfl⟩
  have hC1s : C1.size = c.size := by rw [hC1]; simp [hcl]; omega
  obtain ⟨C2, hC2⟩ : ∃ C2 : Array Value, C2 = (C1.toList.take (i * 7) ++ V.toList.take 7 ++ C1.toList.drop (i * 7 + (V.toList.take 7).length)).toArray := ⟨_, rfl⟩
  have hVl : (V.toList.take 7).length = 7 := by simp; omega
  have hC2s : C2.size = c.size := by rw [hC2]; simp; omega
  have hdb : w.drew.heap[b]? = some (.cells c e (0, 0)) := hb
  have hcp1 : ∀ ty o1 o2 dl dc sl sc, o1 = i * 7 + 7 -> o2 = i * 7 -> (dl = n - i /\ n - i <= sl) -> (Builtin.copy_ #[23, 23] ty #[.slice (some ⟨b, o1, none⟩) dl dc, .slice (some ⟨b, o2, none⟩) sl sc]).run Tryz.prog w.drew = .ok (goInt ((n - i : Nat) : Int)) (w.drew.setRow b C1) := fun ty o1 o2 dl dc sl sc h1' h2' h4' => by
    subst h1'; subst h2'
    have h3' : Nat.min sl dl = n - i := by rw [<- h4'.1]; exact Nat.min_eq_right (by omega)
    have := qI (P := Tryz.prog) 7 w.drew 23 23 ty 28 b (i * 7 + 7) dl dc ⟨b, i * 7, none⟩ sl sc c e (cs.drop (i * 7)) kQ Om hdb (by rw [h3', List.length_drop, hcl]; omega) (fun j v hj => by
      rw [Addr.add_lit, Jp hdb]
      rw [List.getElem?_drop, hcsd, List.getElem?_take] at hj
      split at hj
      · rw [<- Array.getElem?_toList]; exact hj
      · cases hj) (by rw [List.length_drop, hcl]; omega) (fun v hv => h1 v (by rw [<- hcsd]; exact List.mem_of_mem_drop hv))
    rw [h3'] at this
    rw [this, hC1]
  have hcp2 : ∀ (W : World), W.heap = (w.drew.setRow b C1).heap -> ∀ ty o1 dl dc, o1 = i * 7 -> 1 <= dl -> (Builtin.copy_ #[23, 23] ty #[.slice (some ⟨b, o1, none⟩) dl dc, .slice (some ⟨vb, 0, none⟩) 1 vc]).run Tryz.prog W = .ok (goInt ((1 : Nat) : Int)) (W.setRow b C2) := fun W hW ty o1 dl dc h1' h4' => by
    subst h1'
    have h3' : Nat.min 1 dl = 1 := Nat.min_eq_left h4'
    have hWb : W.heap[b]? = some (.cells C1 e (0, 0)) := by rw [hW]; exact setRow_heap w.drew b c C1 e (0, 0) hdb
    have hWv : W.heap[vb]? = some (.cells V eV (0, 0)) := by rw [hW, setRow_other w.drew b vb C1 hvb]; exact hv
    have := qI (P := Tryz.prog) 7 W 23 23 ty 28 b (i * 7) dl dc ⟨vb, 0, none⟩ 1 vc C1 e (V.toList.take 7) kQ Om hWb (by rw [h3', hVl]) (fun j v hj => by
      rw [Addr.add_lit, Jp hWv, Nat.zero_add]
      rw [List.getElem?_take] at hj
      split at hj
      · rw [<- Array.getElem?_toList]; exact hj
      · cases hj) (by rw [hVl]; omega) h1v
    rw [h3'] at this
    rw [this, hC2]
  have hw1 : IntKind.i64.wrap ((i : Int) + 1) = (i : Int) + 1 := by rw [IntKind.wrap_i64]; omega
  have hw2 : IntKind.i64.wrap ((n : Int) + 1) = (n : Int) + 1 := by rw [IntKind.wrap_i64]; omega
  have hin : i <= n := by omega
  have htn : ((i : Int) + 1).toNat = i + 1 := by omega
  have htm : ((n : Int) + 1).toNat = n + 1 := by omega
  have hb2 : ¬ (cap = i + 1) := by omega
  have hb4 : ¬ (cap = i) := by omega
  have hb3 : (i : Int) <= (n : Int) + 1 := by omega
  have hb1 : (0 : Int) <= (i : Int) + 1 := by omega
  have fin : ∃ C : Array Value, w.drew.setRow b C2 = w.drew.setRow b C /\ C.size = c.size /\ C.toList.take (n * 7 + 7) = cs.take (i * 7) ++ V.toList.take 7 ++ cs.drop (i * 7) := by
    refine ⟨C2, rfl, hC2s, Ns (c := c.toList) (c1 := C1.toList) hcl hVl (by omega) (by simp [hC1s]) (by simp [hC1s, hC2s]) (by simp [hC2s]; omega) (fun k hk => by rw [hcsd, List.getElem?_take, if_pos (by omega)]) (fun k => ?_) (fun k => ?_)⟩
    · have := qz (l := c.toList) (cs := cs.drop (i * 7)) (o := i * 7 + 7) (k := k) (by simp [hcl]; omega)
      rw [hC1, this, List.length_drop, hcl]
    · have := qz (l := C1.toList) (cs := V.toList.take 7) (o := i * 7) (k := k) (by simp [hC1s]; omega)
      rw [hC2, this, hVl]
  rw [<- hcsd]
  clear hC1 hC2 hcsd hC1s hC2s
  go_enter Tryz.func42, Tryz.ntmps42
  go_wp2_with (simp only [hov])
  go_region_law_o (refine step_copy_runI rfl _ _ 23 23 rfl (.slice (some ⟨b, (i + 1) * 7, none⟩) (n - i) (cap - (i + 1))) (.slice (some ⟨b, i * 7, none⟩) (n + 1 - i) (cap - i)) (by simp [Act.eval, Act.put]) (by simp [Act.eval, Act.put]) (hcp1 3 ((i + 1) * 7) (i * 7) (n - i) (cap - (i + 1)) (n + 1 - i) (cap - i) (by omega) rfl ⟨rfl, by omega⟩) ?_)
  go_wp2_with (refine wpList_copy_runI _ rfl _ _ 23 23 rfl (.slice (some ⟨b, i * 7, none⟩) (n + 1 - i) (cap - i)) (.slice (some ⟨vb, 0, none⟩) 1 vc) rfl rfl (hcp2 _ rfl 3 (i * 7) (n + 1 - i) (cap - i) rfl (by omega)) ?_)
  go_ret
  exact ⟨rfl, by rw [setRow_setRow]; exact fin⟩
set_option maxHeartbeats 4000000 in
set_option maxRecDepth 100000 in
theorem Iq (b : Addr) (n cap vb vc : Nat) (u : Value) (w w1 : World) (h63 : cap <= 9223372036854775807) (hnc : n <= cap) (h : ∀ ty, (Builtin.append_ #[23, 23] ty #[.slice (some b) n cap, .slice (some ⟨vb, 0, none⟩) 1 vc]).run Tryz.prog w = .ok u w1) :
    Calls Tryz.prog 42 #[.slice (some b) n cap, .int .i64 n, .slice (some ⟨vb, 0, none⟩) 1 vc] w fun x w' => x = .returned u /\ w' = w1 := by
  have u0 := run_underlying kQ
  have mixed : Tryz.prog.follows .mixedOrders = true := by kernel_rfl
  obtain ⟨bb, bo, bsp⟩ := b
  go_enter Tryz.func42, Tryz.ntmps42
  go_wp2_with (at_builtin; refine Lib.wpList_append_run _ rfl _ _ _ _ rfl _ _ rfl rfl _ _ (h _) ?_)
  all_goals (go_ret; exact ⟨rfl, rfl⟩)
set_option maxHeartbeats 4000000 in
set_option maxRecDepth 100000 in
theorem OD (vb vc : Nat) (u : Value) (w w1 : World) (h : ∀ ty, (Builtin.append_ #[23, 23] ty #[.slice none 0 0, .slice (some ⟨vb, 0, none⟩) 1 vc]).run Tryz.prog w = .ok u w1) :
    Calls Tryz.prog 42 #[.slice none 0 0, .int .i64 (0 : Nat), .slice (some ⟨vb, 0, none⟩) 1 vc] w fun x w' => x = .returned u /\ w' = w1 := by
  have u0 := run_underlying kQ
  have mixed : Tryz.prog.follows .mixedOrders = true := by kernel_rfl
  go_enter Tryz.func42, Tryz.ntmps42
  go_wp2_with (at_builtin; refine Lib.wpList_append_run _ rfl _ _ _ _ rfl _ _ rfl rfl _ _ (h _) ?_)
  all_goals (go_ret; exact ⟨rfl, rfl⟩)
set_option maxHeartbeats 4000000 in
set_option maxRecDepth 100000 in
theorem OB (b n cap i vb vc : Nat) (cs vs : List Value) (w : World) (hi : i < n) (hnc : n <= cap) (hroom : cap < n + 1) (hbig : (n + 1) * 72 <= 140737488355328) (hcl : cs.length = n * 7) (hvl : vs.length = 7)
    (hcs : ∀ (k : Nat) u, cs[k]? = some u -> w.cell? ⟨b, k, none⟩ = some u) (hvs : ∀ (k : Nat) u, vs[k]? = some u -> w.cell? ⟨vb, k, none⟩ = some u) (h1 : ∀ v ∈ cs, v.oneCell' = true) (h1v : ∀ v ∈ vs, v.oneCell' = true) :
    Calls Tryz.prog 42 #[.slice (some ⟨b, 0, none⟩) n cap, .int .i64 i, .slice (some ⟨vb, 0, none⟩) 1 vc] w fun x w' => ∃ (G : Nat) (C : Array Value),
      x = .returned (.slice (some ⟨w.heap.size, 0, none⟩) (n + 1) G) /\ n + 1 <= G /\ G <= maxLen /\ w' = w.drew.drew.alloc (.cells C 28) /\ G * 7 <= C.size /\ C.toList.take (n * 7 + 7) = cs.take (i * 7) ++ vs ++ cs.drop (i * 7) := by
  have u0 := run_underlying kQ
  have hz2 : ¬ ((i : Int) = (n : Int)) := by omega
  have hz3 : (cap : Int) < (n : Int) + 1 := by omega
  have mixed : Tryz.prog.follows .mixedOrders = true := by kernel_rfl
  obtain ⟨ii, z, t2, t3, t5, t6, t4⟩ := M5
  have hbw : b < w.heap.size := block_lt_of_cell (hcs 0 _ (List.getElem?_eq_getElem (by omega)))
  have hvw : vb < w.heap.size := block_lt_of_cell (hvs 0 _ (List.getElem?_eq_getElem (by omega)))
  have hkk : (n : Int) + 1 - (i : Int) = ((n + 1 - i : Nat) : Int) := by omega
  have hik : i + (n + 1 - i) = n + 1 := by omega
  have hold : (Builtin.firstCells ii.size i (.slice (some ⟨b, 0, none⟩) i cap)).run Tryz.prog w.drew = .ok (cs.take (i * 7)).toArray w.drew :=
    run_firstCells_some w.drew ii.size i ⟨b, 0, none⟩ i cap (cs.take (i * 7)) (by rw [List.length_take, t5]; omega) (fun j v hj => by
      rw [Addr.add_lit, Nat.zero_add]
      rw [List.getElem?_take] at hj
      split at hj
      · exact hcs j v hj
      · cases hj)
  obtain ⟨G, hG⟩ : ∃ G, G = grownCap w (n + 1) cap 28 := ⟨_, rfl⟩
  have hGn : n + 1 <= G := by rw [hG]; exact grownCap_ge w _ _ _
  have hGm : G <= maxLen := by rw [hG]; exact grownCap_le_maxLen w (n + 1) cap 28 (by unfold maxLen; omega)
  obtain ⟨ROW, hROW⟩ : ∃ ROW : Array Value, ROW = (cs.take (i * 7)).toArray ++ Builtin.zeroCells z.cells (n + 1 - i) ++ Builtin.zeroCells z.cells (G - (n + 1)) := ⟨_, rfl⟩
  have hrz : ∀ ty, (Builtin.append_ #[23, 3] ty #[.slice (some ⟨b, 0, none⟩) i cap, .int .i64 ((n : Int) + 1 - (i : Int))]).run Tryz.prog w = .ok (.slice (some ⟨w.heap.size, 0, none⟩) (n + 1) G) (w.drew.alloc (.cells ROW 28)) := fun ty => by
    have h := Lib.run_append_grow_zeros w 23 3 ty 28 ii z .i64 .i64 kQ Tryz.underlying3 t2 t3 (some ⟨b, 0, none⟩) i cap (cs.take (i * 7)) hold (n + 1 - i) (by omega) (by omega) (by omega) (by omega) (by rw [t6]; omega) (by rw [t6, hik]; exact growslice_fits hroom hbig)
    rw [hik, <- hG, <- hROW] at h
    rw [hkk]
    exact h
  have hRs : ROW.size = G * 7 := by
    rw [hROW]
    simp only [Array.size_append, size_zeroCells, t4, List.size_toArray, List.length_take, hcl]
    rw [Nat.sub_mul, Nat.sub_mul]
    omega
  obtain ⟨R1, hR1⟩ : ∃ R1 : Array Value, R1 = (ROW.toList.take (i * 7) ++ vs ++ ROW.toList.drop (i * 7 + vs.length)).toArray := ⟨_, rfl⟩
  have hR1s : R1.size = G * 7 := by rw [hR1]; simp; omega
  obtain ⟨R2, hR2⟩ : ∃ R2 : Array Value, R2 = (R1.toList.take (i * 7 + 7) ++ cs.drop (i * 7) ++ R1.toList.drop (i * 7 + 7 + (cs.drop (i * 7)).length)).toArray := ⟨_, rfl⟩
  have hR2s : R2.size = G * 7 := by rw [hR2]; simp; omega
  have hcpA : ∀ (W : World), W.heap = (w.alloc (.cells ROW 28)).heap -> ∀ ty o1 dl dc, o1 = i * 7 -> 1 <= dl -> (Builtin.copy_ #[23, 23] ty #[.slice (some ⟨w.heap.size, o1, none⟩) dl dc, .slice (some ⟨vb, 0, none⟩) 1 vc]).run Tryz.prog W = .ok (goInt ((1 : Nat) : Int)) (W.setRow w.heap.size R1) := fun W hW ty o1 dl dc h1' h4' => by
    subst h1'
    have h3' : Nat.min 1 dl = 1 := Nat.min_eq_left h4'
    have hWb : W.heap[w.heap.size]? = some (.cells ROW 28 (0, 0)) := by rw [hW]; exact heap_alloc_new w _
    have := qI (P := Tryz.prog) 7 W 23 23 ty 28 w.heap.size (i * 7) dl dc ⟨vb, 0, none⟩ 1 vc ROW 28 vs kQ Om hWb (by rw [h3', hvl]) (fun j v hj => by
      rw [Addr.add_lit, Nat.zero_add]
      have h2 := hvs j v hj
      unfold World.cell? at h2 ⊢
      rw [hW, Below.heap_alloc _ _ _ hvw]; exact h2) (by rw [hvl]; omega) h1v
    rw [h3'] at this
    rw [this, hR1]
  have hcpB : ∀ (W : World), W.heap = ((w.alloc (.cells ROW 28)).setRow w.heap.size R1).heap -> ∀ ty o1 o2 dl dc sl sc, o1 = i * 7 + 7 -> o2 = i * 7 -> (dl = n - i /\ n - i <= sl) -> (Builtin.copy_ #[23, 23] ty #[.slice (some ⟨w.heap.size, o1, none⟩) dl dc, .slice (some ⟨b, o2, none⟩) sl sc]).run Tryz.prog W = .ok (goInt ((n - i : Nat) : Int)) (W.setRow w.heap.size R2) := fun W hW ty o1 o2 dl dc sl sc h1' h2' h4' => by
    subst h1'; subst h2'
    have h3' : Nat.min sl dl = n - i := by rw [<- h4'.1]; exact Nat.min_eq_right (by omega)
    have hWb : W.heap[w.heap.size]? = some (.cells R1 28 (0, 0)) := by rw [hW]; exact setRow_heap _ _ _ _ _ _ (heap_alloc_new w _)
    have := qI (P := Tryz.prog) 7 W 23 23 ty 28 w.heap.size (i * 7 + 7) dl dc ⟨b, i * 7, none⟩ sl sc R1 28 (cs.drop (i * 7)) kQ Om hWb (by rw [h3', List.length_drop, hcl]; omega) (fun j v hj => by
      rw [Addr.add_lit]
      rw [List.getElem?_drop] at hj
      have h2 := hcs _ v hj
      unfold World.cell? at h2 ⊢
      rw [hW, setRow_other _ _ _ _ (by show b ≠ w.heap.size; omega), Below.heap_alloc _ _ _ hbw]; exact h2) (by rw [List.length_drop, hcl]; omega) (fun v hv => h1 v (List.mem_of_mem_drop hv))
    rw [h3'] at this
    rw [this, hR2]
  have hE : (w.alloc (.cells ROW 28)).drew.heap = (w.alloc (.cells ROW 28)).heap := rfl
  have hF : ((w.alloc (.cells ROW 28)).drew.setRow w.heap.size R1).drew.heap = ((w.alloc (.cells ROW 28)).setRow w.heap.size R1).heap := rfl
  have hGi : ¬ (G = i) := by omega
  have hGim : ¬ (G = i + 1) := by omega
  have hci : ¬ (cap = i) := by omega
  have hw1 : IntKind.i64.wrap ((i : Int) + 1) = (i : Int) + 1 := by rw [IntKind.wrap_i64]; omega
  have hw2 : IntKind.i64.wrap ((n : Int) + 1) = (n : Int) + 1 := by rw [IntKind.wrap_i64]; omega
  have hin : i <= n := by omega
  have htn : ((i : Int) + 1).toNat = i + 1 := by omega
  have hb3 : (i : Int) <= (n : Int) := by omega
  have hG63 : G <= 9223372036854775807 := by unfold maxLen at hGm; omega
  have hb1 : (0 : Int) <= (i : Int) + 1 := by omega
  have fin : R2.toList.take (n * 7 + 7) = cs.take (i * 7) ++ vs ++ cs.drop (i * 7) := by
    refine Us (c := ROW.toList) (c1 := R1.toList) hcl hvl (by omega) (by simp [hR1s, hRs]) (by simp [hR1s, hR2s]) (by simp [hR2s]; omega) (fun k hk => ?_) (fun k => ?_) (fun k => ?_)
    · rw [hROW]
      simp only [Array.toList_append, List.append_assoc]
      rw [List.getElem?_append_left (by simp; omega), List.getElem?_take, if_pos hk]
    · have := qz (l := ROW.toList) (cs := vs) (o := i * 7) (k := k) (by simp [hRs]; omega)
      rw [hR1, this, hvl]
    · have := qz (l := R1.toList) (cs := cs.drop (i * 7)) (o := i * 7 + 7) (k := k) (by simp [hR1s, hcl]; omega)
      rw [hR2, this, List.length_drop, hcl]
  have hR2g : G * 7 <= R2.size := by omega
  clear hkk hik hold hROW hG hR1 hR2 hRs hR1s hR2s
  go_enter Tryz.func42, Tryz.ntmps42
  go_wp2_with (first
    | (at_builtin; refine Lib.wpList_append_run _ rfl _ _ _ _ rfl _ _ rfl rfl _ _ (hrz _) ?_)
    | (refine wpList_copy_runI (w.alloc (.cells ROW 28)).drew rfl _ _ 23 23 rfl (.slice (some ⟨w.heap.size, i * 7, none⟩) (n + 1 - i) (G - i)) (.slice (some ⟨vb, 0, none⟩) 1 vc) rfl rfl (hcpA _ hE 3 (i * 7) (n + 1 - i) (G - i) rfl (by omega)) ?_))
  go_region_law_o (refine step_copy_runI rfl _ _ 23 23 rfl (.slice (some ⟨w.heap.size, (i + 1) * 7, none⟩) (n + 1 - (i + 1)) (G - (i + 1))) (.slice (some ⟨b, i * 7, none⟩) (n - i) (cap - i)) (by simp [Act.eval, Act.put]) (by simp [Act.eval, Act.put]) (hcpB _ hF 3 ((i + 1) * 7) (i * 7) (n + 1 - (i + 1)) (G - (i + 1)) (n - i) (cap - i) (by omega) rfl ⟨by omega, by omega⟩) ?_)
  go_wp2
  go_ret
  exact ⟨G, R2, rfl, hGn, hGm, (congrArg (fun W : World => W.drew.setRow w.heap.size R2) (kY w.drew ROW R1 28)).trans (kY w.drew.drew R1 R2 28), hR2g, fin⟩
section
variable {w0 : World} {Z0 : Fr} {J : Nat -> Option Nat} {Z : Nat -> Prop} {s : AS} {a : Act} {w : World}
theorem V6 (R : Rel w0 Z0 J Z s a w) {i b : Nat} {cs l2 : List CV} {c c' : Array Value} {e : TypeId} (hi : hget s.heap i = some cs) (hj : J i = some b) (hb : w.heap[b]? = some (.cells c e (0, 0))) (hsz : c'.size = c.size) (hl : ∀ y, y ∈ l2 -> jM y) (h : aQ (bK w J Z) (c'.toList.take l2.length) l2) :
    Rel w0 Z0 J Z (s.qm 0 (.app i l2)) a (w.setRow b c') := by
  have R1 := Rel.set R hi hj hb hsz (aG s.heap i l2) (fun q hq => aH _ _ _ _ hq) h
  have R2 := R1.cB i
  simp only [AS.cB, j5, gJ, jK i hl] at R2
  exact R2
theorem SK (R : Rel w0 Z0 J Z s a w) {i : Nat} {cs l2 : List CV} {C : Array Value} {e : TypeId} (hi : hget s.heap i = some cs) (hl : ∀ y, y ∈ l2 -> jM y) (h : aQ (bK w J Z) (C.toList.take l2.length) l2) :
    Rel w0 Z0 (fM J i w.heap.size) Z (s.qm 0 (.app i l2)) a (w.alloc (.cells C e)) := by
  refine Rel.move (s := s.cB i) (cs := l2) (R.cB i) ?_ (aG _ _ _) (fun q hq => aH _ _ _ _ hq) (fun t => ?_) (fun f t => ?_) (fun q x hq y hy => ?_) h
  · simp [AS.cB, fU, hi]
  · simp only [AS.cB, AS.get, kC]; exact AV.j6 i _
  · simp only [AS.cB, uT]; exact AV.j6 i _
  · by_cases hqk : q = i
    · subst hqk
      rw [aG, Option.some.injEq] at hq
      subst hq
      have := hl y hy
      cases y <;> first | trivial | exact this.elim
    · rw [aH _ _ _ _ hqk] at hq
      simp only [AS.cB, fU, Option.map_eq_some_iff] at hq
      obtain ⟨cs0, _, rfl⟩ := hq
      exact qw i _ y hy
end
set_option maxHeartbeats 1000000 in
theorem aeL {w0 : World} {Z0 : Fr} {J : Nat -> Option Nat} {Z : Nat -> Prop} {s : AS} {a : Act} {w : World} (R : Rel w0 Z0 J Z s a w) {i j n p : Nat} {l x : List CV} {vs : Array Value} (hi : hget s.heap i = some l) (hl : l.length = n * 7) (hli : ∀ y, y ∈ l -> jM y)
    (hj : hget s.heap j = some x) (hx : x.length = 7) (hxi : ∀ y, y ∈ x -> jM y) (hij : i ≠ j) (hp : p <= n) (hz : (n + 1) * 72 <= 140737488355328) (hv : aQ (cu w J Z) vs.toList [.one (.slc i 0 n 7), .one (.iv (.g (.int .i64 (p : Int)))), .one (.slc j 0 1 7)]) :
    Calls Tryz.prog 42 vs w fun e w' => ∃ v J', e = .returned v /\ Rel w0 Z0 J' Z (s.qm 0 (.app i (l.take (p * 7) ++ x ++ l.drop (p * 7)))) a w' /\ bq w' J' Z v (.t (.one (.slc i 0 (n + 1) 7))) := by
  obtain ⟨vs⟩ := vs
  match vs, hv with
  | [v1, v2, v3], ⟨h1, h2, h3, _⟩ =>
    have e2 : v2 = .int .i64 p := by cases h2; rfl
    subst e2
    have h1 : bK w J Z v1 (.slc i 0 n 7) := h1
    have h3 : bK w J Z v3 (.slc j 0 1 7) := h3
    have hne : n + 1 <= maxLen := by unfold maxLen; omega
    have hL2 : ∀ y, y ∈ l.take (p * 7) ++ x ++ l.drop (p * 7) -> jM y := fun y hy => by
      simp only [List.mem_append] at hy
      rcases hy with (hy | hy) | hy
      · exact hli y (List.mem_of_mem_take hy)
      · exact hxi y hy
      · exact hli y (List.mem_of_mem_drop hy)
    have hLl : (l.take (p * 7) ++ x ++ l.drop (p * 7)).length = n * 7 + 7 := by simp [hl, hx]; omega
    rcases vL R h3 hj (by rw [hx]; omega) with ⟨h0, _⟩ | ⟨vb, vc, V, ev, hVl, hVc, hV1, hVr⟩
    · cases h0
    subst ev
    rcases h3 with ⟨h30, _⟩ | ⟨vb', vc', VC, eV, ev', hjv, hv1, hv2, hbv, hsv⟩
    · cases h30
    cases ev'
    have hVc' : ∀ (k : Nat) u, V[k]? = some u -> w.cell? ⟨vb, k, none⟩ = some u := fun k u h => by have := hVc k u h; rwa [Addr.add_lit, Nat.zero_add] at this
    rw [Nat.one_mul] at hVl
    have hVt : V = VC.toList.take 7 := by
      refine List.ext_getElem? fun k => ?_
      rw [List.getElem?_take]
      split
      · rename_i hk
        have := hVc' k _ (List.getElem?_eq_getElem (by omega))
        rw [cell_of_row w vb k VC eV _ hbv] at this
        rw [List.getElem?_eq_getElem (by omega), Array.getElem?_toList, this]
      · rw [List.getElem?_eq_none (by omega)]
    have hVr : aQ (bK w J Z) V x := by rwa [List.drop_zero, List.take_of_length_le (by rw [hx]; omega)] at hVr
    obtain ⟨ii, z, t2, t3, t5, t6, t4⟩ := M5
    have hgr : ∀ W : World, W.heap = w.heap -> Grow (fun _ => True) w J Z W J Z := fun W hW => ⟨fun _ _ _ h => h, fun _ h => h, fun _ _ _ => by rw [hW], fun _ _ _ _ c _ _ h => ⟨c, by rw [hW]; exact h, rfl⟩, fun _ _ h _ => by rw [hW]; exact h⟩
    have new : ∀ (e : Ending) (W : World) (G : Nat) (C : Array Value) (cs : List Value), e = .returned (.slice (some ⟨w.heap.size, 0, none⟩) (n + 1) G) -> n + 1 <= G -> G <= maxLen -> Rel w0 Z0 J Z s a W -> W.heap = w.heap -> aQ (bK w J Z) cs l -> C.toList.take (n * 7 + 7) = cs.take (p * 7) ++ V ++ cs.drop (p * 7) -> G * 7 <= C.size ->
        ∃ v J', e = .returned v /\ Rel w0 Z0 J' Z (s.qm 0 (.app i (l.take (p * 7) ++ x ++ l.drop (p * 7)))) a (W.alloc (.cells C 28)) /\ bq (W.alloc (.cells C 28)) J' Z v (.t (.one (.slc i 0 (n + 1) 7))) := fun e W G C cs he g1 g2 RW hW hcs hC hsz => by
      have hAll : aQ (bK W J Z) (C.toList.take (l.take (p * 7) ++ x ++ l.drop (p * 7)).length) (l.take (p * 7) ++ x ++ l.drop (p * 7)) := by
        rw [hLl, hC]
        refine aQ.mono (fun _ y h => bK.grow (hgr W hW) y.bZ h) (((hcs.take (p * 7)).append hVr).append (hcs.drop (p * 7)))
      refine ⟨_, _, he, SK RW hi hL2 hAll, ?_⟩
      refine Or.inr ⟨w.heap.size, G, C, 28, rfl, by simp [fM, hW], g1, g2, ?_, by omega⟩
      rw [<- hW]; exact heap_alloc_new W _
    rcases h1 with ⟨h0, rfl⟩ | ⟨b, cap, c, e, rfl, hjb, hc1, hc2, hb, hs⟩
    · -- nil
      subst h0
      obtain rfl : p = 0 := by omega
      have hl0 : l = [] := List.eq_nil_of_length_eq_zero (by simpa using hl)
      subst hl0
      refine (OD vb vc _ w _ fun ty => run_append_nil (P := Tryz.prog) w 23 ty 28 ii z kQ t2 t3 ⟨vb, 0, none⟩ 1 vc V (by rw [t5]; exact hVl) hVc (by omega) (by omega) (by rw [t6]; omega)).mono fun e w' ⟨he, hw⟩ => ?_
      subst hw
      refine new e w.drew _ _ [] he (grownCap_ge _ _ _ _) (grownCap_le_maxLen _ _ _ _ hne) R.drew rfl (by trivial) (by simp [hVl]) (by have := grownCap_ge w 1 0 28; simp only [Array.size_append, size_zeroCells, t4, List.size_toArray, hVl]; rw [Nat.sub_mul]; omega)
    · rcases vL R (Or.inr ⟨b, cap, c, e, rfl, hjb, hc1, hc2, hb, hs⟩ : bK w J Z (.slice (some ⟨b, 0, none⟩) n cap) (.slc i 0 n 7)) hi (by omega) with ⟨h0, h00⟩ | ⟨b', cap', cs, eb, hcl, hcc, hc11, hcr⟩
      · cases h00
      cases eb
      have hcc' : ∀ (k : Nat) u, cs[k]? = some u -> w.cell? ⟨b, k, none⟩ = some u := fun k u h => by have := hcc k u h; rwa [Addr.add_lit, Nat.zero_add] at this
      replace hcr : aQ (bK w J Z) cs l := by rwa [List.drop_zero, List.take_of_length_le (by omega)] at hcr
      have hct : cs = c.toList.take (n * 7) := by
        refine List.ext_getElem? fun k => ?_
        rw [List.getElem?_take]
        split
        · rename_i hk
          have := hcc' k _ (List.getElem?_eq_getElem (by omega))
          rw [cell_of_row w b k c e _ hb] at this
          rw [List.getElem?_eq_getElem (by omega), Array.getElem?_toList, this]
        · rw [List.getElem?_eq_none (by omega)]
      have h63 : cap <= 9223372036854775807 := by unfold maxLen at hc2; omega
      have hvb : vb ≠ b := by
        rintro rfl
        exact hij (R.inj _ _ _ hjb hjv)
      by_cases hroom : n + 1 <= cap
      · have hset : ∀ (W : World) (e' : Ending) (C : Array Value) , Rel w0 Z0 J Z s a W -> W.heap = w.heap -> e' = .returned (.slice (some ⟨b, 0, none⟩) (n + 1) cap) -> C.size = c.size -> C.toList.take (n * 7 + 7) = cs.take (p * 7) ++ V ++ cs.drop (p * 7) ->
            ∃ v J', e' = .returned v /\ Rel w0 Z0 J' Z (s.qm 0 (.app i (l.take (p * 7) ++ x ++ l.drop (p * 7)))) a (W.setRow b C) /\ bq (W.setRow b C) J' Z v (.t (.one (.slc i 0 (n + 1) 7))) := fun W e' C RW hW he g1 g2 => by
          have hWb : W.heap[b]? = some (.cells c e (0, 0)) := by rw [hW]; exact hb
          refine ⟨_, J, he, V6 RW hi hjb hWb g1 hL2 ?_, Or.inr ⟨b, cap, C, e, rfl, hjb, hroom, hc2, setRow_heap W b c C e (0, 0) hWb, by omega⟩⟩
          rw [hLl, g2]
          exact aQ.mono (fun _ y h => bK.grow (hgr W hW) y.bZ h) (((hcr.take (p * 7)).append hVr).append (hcr.drop (p * 7)))
        rcases Nat.lt_or_ge p n with hpl | hpl
        · refine (Km b n cap p vb vc c VC e eV w hpl hroom h63 hvb hb hbv (by omega) (by omega) (by rw [<- hct]; exact hc11) (by rw [<- hVt]; exact hV1)).mono fun e' w' ⟨he, C, hw, g1, g2⟩ => ?_
          subst hw
          rw [<- hct, <- hVt] at g2
          exact hset w.drew e' C R.drew rfl he g1 g2
        · obtain rfl : p = n := by omega
          refine (Iq ⟨b, 0, none⟩ p cap vb vc _ w _ h63 hc1 fun ty => run_append_room' (P := Tryz.prog) 23 ty 28 e ii kQ t2 b p cap c hb ⟨vb, 0, none⟩ 1 vc V (by rw [t5]; exact hVl) hVc hV1 hroom (by rw [t5]; omega)).mono fun e' w' ⟨he, hw⟩ => ?_
          subst hw
          refine hset w e' _ R rfl he (by simp [t5]; omega) ?_
          rw [t5, hct]
          have e1 : ((c.toList.take (p * 7)).take (p * 7)) = c.toList.take (p * 7) := by rw [List.take_take, Nat.min_self]
          have e2 : ((c.toList.take (p * 7)).drop (p * 7)) = [] := List.drop_eq_nil_of_le (by simp; omega)
          rw [e1, e2, List.append_nil]
          exact List.take_left' (by rw [List.length_append, <- hct, hcl, hVl])
      · rcases Nat.lt_or_ge p n with hpl | hpl
        · refine (OB b n cap p vb vc cs V w hpl hc1 (by omega) hz hcl hVl hcc' hVc' hc11 hV1).mono fun e' w' ⟨G, C, he, g1, g2, hw, g3, g4⟩ => ?_
          subst hw
          exact new e' w.drew.drew G C cs he g1 g2 R.drew.drew rfl hcr g4 g3
        · obtain rfl : p = n := by omega
          refine (Iq ⟨b, 0, none⟩ p cap vb vc _ w _ h63 hc1 fun ty => run_append_grow (P := Tryz.prog) w 23 ty 28 ii z kQ t2 t3 ⟨b, 0, none⟩ p cap cs (by rw [t5]; exact hcl) hcc ⟨vb, 0, none⟩ 1 vc V (by rw [t5]; exact hVl) hVc (by omega) (by omega) (by rw [t6]; exact growslice_fits (by omega) hz)).mono fun e' w' ⟨he, hw⟩ => ?_
          subst hw
          refine new e' w.drew _ _ cs he (grownCap_ge _ _ _ _) (grownCap_le_maxLen _ _ _ _ hne) R.drew rfl hcr ?_ ?_
          · have e1 : cs.take (p * 7) = cs := List.take_of_length_le (by omega)
            have e2 : cs.drop (p * 7) = [] := List.drop_eq_nil_of_le (by omega)
            rw [e1, e2, List.append_nil]
            simp only [Array.toList_append]
            exact List.take_left' (by rw [List.length_append, hcl, hVl])
          · have := grownCap_ge w (p + 1) cap 28
            simp only [Array.size_append, size_zeroCells, t4, List.size_toArray, hVl, hcl]; rw [Nat.sub_mul]; omega
set_option maxRecDepth 100000 in
theorem Yl {os : List Oper} {q d t1 t2 t3 ty i j n p : Nat} {tys : Array TypeId} {pos : String} {aft : Array Edge} {L : List Nat} {s s' : AS} {l x : List CV} (ho : jP os q = some ⟨some d, .call ⟨.value (.func 42), #[.tmp t1, .tmp t2, .tmp t3], tys⟩, ty, pos, aft, none⟩) (e1 : s.get t1 = .t (.one (.slc i 0 n 7))) (e2 : s.get t2 = .t (.one (.iv (.g (.int .i64 (p : Int)))))) (e3 : s.get t3 = .t (.one (.slc j 0 1 7)))
    (hi : hget s.heap i = some l) (hj : hget s.heap j = some x) (hl : l.length = n * 7) (hli : ∀ y, y ∈ l -> jM y) (hx : x.length = 7) (hxi : ∀ y, y ∈ x -> jM y) (hij : i ≠ j) (hp : p <= n) (hz : (n + 1) * 72 <= 140737488355328) (hd : d < s.N)
    (hs' : Leaf ⟨bD (((s.qm 0 (.app i (l.take (p * 7) ++ x ++ l.drop (p * 7)))).put (some d) (.t (.one (.slc i 0 (n + 1) 7)))).env) L, ((s.qm 0 (.app i (l.take (p * 7) ++ x ++ l.drop (p * 7)))).put (some d) (.t (.one (.slc i 0 (n + 1) 7)))).heap, s.N, ((s.qm 0 (.app i (l.take (p * 7) ++ x ++ l.drop (p * 7)))).put (some d) (.t (.one (.slc i 0 (n + 1) 7)))).gh, s.lp⟩ s') : RX Tryz.prog (jP os q) s s' := by
  rw [ho]
  refine ⟨rfl, fun hdo w0 Z0 a w K Q m ⟨J, Z, R⟩ hK => dW (dS _) hdo (iL (iK rfl (gU R (show dV (s.ev (.func 42)) = .pure 42 from rfl)) (by kernel_rfl)) ?_)⟩
  simp only [Array.empty_append, Array.append_empty]
  have hargs : aQ (cu w J Z) ((#[Operand.tmp t1, Operand.tmp t2, Operand.tmp t3] : Array Operand).map a.eval).toList [.one (.slc i 0 n 7), .one (.iv (.g (.int .i64 (p : Int)))), .one (.slc j 0 1 7)] := by
    simp only [Array.toList_map]; exact mP R (l := [.tmp t1, .tmp t2, .tmp t3]) (nd := True /\ True /\ True /\ True) (by simp only [kg, AS.ev, e1, e2, e3, AV.tv, AV.nd]) ⟨trivial, trivial, trivial, trivial⟩
  refine (aeL R hi hl hli hj hx hxi hij hp hz hargs).mono fun e w' ⟨v, J', he, R', hr⟩ => ⟨v, he, hK _ _ ?_⟩
  have R2 := R'.put (d := some d) (fun k e => by cases e; exact hd) hr
  exact uf hs' ⟨J', Z, R2⟩
end Go.Proofs.YtcfechepbamhkaaGreat
