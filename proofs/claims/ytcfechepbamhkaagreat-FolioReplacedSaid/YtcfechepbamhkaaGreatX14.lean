/- Part 14 of 17: contracts of functions and plain laws for the root text. No condition. -/
import Derived.Test.YtcfechepbamhkaaGreatX01
import Derived.Test.YtcfechepbamhkaaGreatX02
import Derived.Test.YtcfechepbamhkaaGreatX03
import Derived.Test.YtcfechepbamhkaaGreatX04
import Derived.Test.YtcfechepbamhkaaGreatX05
import Derived.Test.YtcfechepbamhkaaGreatX06
import Derived.Test.YtcfechepbamhkaaGreatX07
import Derived.Test.YtcfechepbamhkaaGreatX08
import Derived.Test.YtcfechepbamhkaaGreatX09
import Derived.Test.YtcfechepbamhkaaGreatX10
import Derived.Test.YtcfechepbamhkaaGreatX11
import Derived.Test.YtcfechepbamhkaaGreatX12
import Derived.Test.YtcfechepbamhkaaGreatX13
set_option linter.unusedVariables false
set_option linter.unusedSimpArgs false
set_option maxRecDepth 100000
set_option maxHeartbeats 4000000
namespace Go.Proofs.YtcfechepbamhkaaGreat
open Go.RowKit Go.Sea
open Nat renaming reduceAdd -> xA, reduceLT -> xL, reduceLeDiff -> xD, reduceEqDiff -> xE, reduceMul -> xM, reduceSub -> xS, reduceBEq -> xB
theorem F7 : aM Tryz.prog 44 = true := by kernel_rfl
attribute [go_sem] F7
def rpF (f : aj) (j : Nat) (s : aF) : aj := ⟨f.k, fun u => ((iT f 0).set j s).getD u bg, f.n, f.N⟩
def ER (f : aj) (s : aF) : Int := if dW s = true then (if iO f s.ch = 0 then (if s.ed < (f.S (iN f s.ch)).ed then 13 else 0) else iO f s.ch) else 1
def nW (f : aj) (s : aF) : aj := if ER f s = 0 then uz (rpF f (iN f s.ch) s) else qA
theorem amH {f : aj} {s : aF} (h : dW s = false) : ER f s = 1 /\ nW f s = qA := by
  have e : ER f s = 1 := by unfold ER; rw [if_neg (by rw [h]; simp)]
  exact ⟨e, by unfold nW; rw [if_neg (by omega)]⟩
theorem amC {f : aj} {s : aF} (h : dW s = true) (h0 : iO f s.ch ≠ 0) : ER f s = iO f s.ch /\ nW f s = qA := by
  have e : ER f s = iO f s.ch := by unfold ER; rw [if_pos h, if_neg h0]
  exact ⟨e, by unfold nW; rw [if_neg (by omega)]⟩
theorem agI {f : aj} {s : aF} (h : dW s = true) (h0 : iO f s.ch = 0) (hd : s.ed < (f.S (iN f s.ch)).ed) : ER f s = 13 /\ nW f s = qA := by
  have e : ER f s = 13 := by unfold ER; rw [if_pos h, if_pos h0, if_pos hd]
  exact ⟨e, by unfold nW; rw [if_neg (by omega)]⟩
theorem af0 {f : aj} {s : aF} (h : dW s = true) (h0 : iO f s.ch = 0) (hd : (f.S (iN f s.ch)).ed <= s.ed) : ER f s = 0 /\ nW f s = uz (rpF f (iN f s.ch) s) := by
  have e : ER f s = 0 := by unfold ER; rw [if_pos h, if_pos h0, if_neg (by omega)]
  exact ⟨e, by unfold nW; rw [if_pos e]⟩
theorem WM {f : aj} (hf : f.Ok) {j : Nat} (hj : j < f.k) {s : aF} (hs : s.Ok) : (rpF f j s).Ok := ⟨hf.k, fun i hi => by
  have hi' : i < f.k := hi
  show (((iT f 0).set j s).getD i bg).Ok
  rw [List.getD, List.getElem?_set]
  split
  · rw [if_pos (by rw [fZ]; exact hj)]; exact hs
  · have := BD (f := f) (i := 0) hi'
    rw [if_neg (Nat.not_lt_zero _), List.getD] at this
    rw [this]; exact hf.s i hi', hf.n, hf.nn⟩
theorem agq {f : aj} (h : gy f = true) : f.k <= 1000 := Nat.le_trans (iJ h).1 (by decide)
theorem Wq (f : aj) (hf : f.Ok) (hk : f.k <= 1000) (F G : Nat -> Nat -> IV) (h : ∀ i o, i < f.k -> o < 13 -> (F i o).eqv (iR f.S i o)) (h' : ∀ i o, i < f.n -> o < 7 -> (G i o).eqv (dX f.N i o)) : aA Tryz.prog 44 [.agg [.lst 13 f.k F, .lst 7 f.n G]] (.t (j6 (uz f))) :=
  (aii f hf hk).eqv (args' := [.agg [.lst 13 f.k F, .lst 7 f.n G]]) ⟨⟨⟨rfl, rfl, h⟩, ⟨rfl, rfl, h'⟩, trivial⟩, trivial⟩ (PV.bn _)
theorem aez {f : aj} {j : Nat} {s : aF} : ∀ i o, i < f.k -> o < 13 -> (Im ((eY ((iT f 0).set j s)).getD (i * 13 + o) .any)).eqv (iR (rpF f j s).S i o) := fun i o hi ho => KI _ i o (by rw [List.length_set, fZ]; exact hi) ho
theorem alC (f : aj) (hf : f.Ok) (s : aF) (hs : s.Ok) (h1 : dW s = false) : aA Tryz.prog 35 [j6 f, .agg [.g (.int .i64 s.ch), .g (.int .i64 s.sc), .g (.int .i64 s.ed), .g (.int .i64 s.m.A), .g (.int .i64 s.m.B), .g (.int .i64 s.m.C), .g (.int .i64 s.m.D), .g (.int .i64 s.m.E), .g (.int .i64 s.m.F), .g (.int .i64 s.m.R), .g (.int .i64 s.cap), .lst 1 s.q (bC s.dn), .lst 9 s.n (dN s.f)]] (.tup [j6 (nW f s), .one (.g (.int .i64 (ER f s)))]) := by
  refine ak Tryz.func35 rfl (by rw [Tryz.ntmps35]; simp) ?_
  simp only [Tryz.ntmps35, zM, PT.tv, au, Nat.zero_add, Nat.reduceAdd]
  repeat' (first
 | ((with_reducible show AW _ _ _ _); first
 | (with_reducible first | refine aS (fun K hK => ?_) | refine aT ?_ | refine aC ?_)
 | ((with_reducible first | refine aP 0 [0,1] ?_ | refine aP 1 [2,3,4] ?_ | refine aP 2 [4] ?_)))
 | ((first | (with_reducible refine And.intro ?_ ?_) | (with_reducible refine Need.mk ?_)); focus (exact True.intro))
 | (with_reducible refine aK ?_)
 | ((with_reducible show bL _ _ _ _ _ _); first
 | ((with_reducible refine aN ?_ ?_) <;> (intro hc; (try simp only [zB, zC, reduceCtorEq] at hc); (try (exfalso; contradiction)))))
 | ((with_reducible show aZ _ _ _ _ _ _ _ _ _ _); (refine aG (k := 48) iq (iE s hs) ?_ ?_))
 | ((fail_if_success (with_reducible show AW _ _ _ _)); simp (maxSteps := 2000000) only [go_sem, reduceIte, reduceCtorEq, xA, xL, xD, xE, xM, xS, xB, Tryz.f35, dh, cB, cK, cO, cu, cZ, bZ, bY, bX, dw, bJ, bH, bI, bC, h1])
 | ((with_reducible refine hK _ ?_); clear hK K))
  all_goals (have e := amH (f := f) h1; rw [e.1, e.2]; unfold qA; (repeat' (first | exact rfl | (with_reducible refine And.intro ?_ ?_))))
theorem alO (f : aj) (hf : f.Ok) (s : aF) (hs : s.Ok) (h1 : dW s = true) (h0 : iO f s.ch ≠ 0) : aA Tryz.prog 35 [j6 f, .agg [.g (.int .i64 s.ch), .g (.int .i64 s.sc), .g (.int .i64 s.ed), .g (.int .i64 s.m.A), .g (.int .i64 s.m.B), .g (.int .i64 s.m.C), .g (.int .i64 s.m.D), .g (.int .i64 s.m.E), .g (.int .i64 s.m.F), .g (.int .i64 s.m.R), .g (.int .i64 s.cap), .lst 1 s.q (bC s.dn), .lst 9 s.n (dN s.f)]] (.tup [j6 (nW f s), .one (.g (.int .i64 (ER f s)))]) := by
  refine ak Tryz.func35 rfl (by rw [Tryz.ntmps35]; simp) ?_
  simp only [Tryz.ntmps35, zM, PT.tv, au, Nat.zero_add, Nat.reduceAdd]
  repeat' (first
 | ((with_reducible show AW _ _ _ _); first
 | (with_reducible first | refine aS (fun K hK => ?_) | refine aI ?_ | refine aT ?_ | refine aC ?_)
 | (first
 | (with_reducible first | refine aP 0 [0,1] ?_ | refine aP 1 [2,3,4] ?_ | refine aP 3 [2,3,4] ?_ | refine aP 4 [2,3,4,6,7] ?_ | refine aP 5 [4,7] ?_)))
 | ((first | (with_reducible refine And.intro ?_ ?_) | (with_reducible refine Need.mk ?_)); focus (exact True.intro))
 | (with_reducible refine aK ?_)
 | ((with_reducible show bL _ _ _ _ _ _); first
 | ((with_reducible refine aN ?_ ?_) <;> (intro hc; (try simp only [zB, zC, reduceCtorEq] at hc); (try (exfalso; contradiction)))))
 | ((with_reducible show aZ _ _ _ _ _ _ _ _ _ _); first
 | (refine aG (k := 48) iq (iE s hs) ?_ ?_)
 | (refine aG (k := 45) jD (mH f hf s.ch) ?_ ?_))
 | ((fail_if_success (with_reducible show AW _ _ _ _)); simp (maxSteps := 2000000) only [go_sem, reduceIte, reduceCtorEq, xA, xL, xD, xE, xM, xS, xB, Tryz.f35, dh, cB, cK, cO, cu, cZ, bZ, bY, bX, dw, bJ, bH, bI, bC, h1, h0])
 | ((with_reducible refine hK _ ?_); clear hK K))
  all_goals (have e := amC h1 h0; rw [e.1, e.2]; unfold qA; (repeat' (first | exact rfl | (with_reducible refine And.intro ?_ ?_))))
theorem alo (f : aj) (hf : f.Ok) (s : aF) (hs : s.Ok) (h1 : dW s = true) (h0 : iO f s.ch = 0) : aA Tryz.prog 35 [j6 f, .agg [.g (.int .i64 s.ch), .g (.int .i64 s.sc), .g (.int .i64 s.ed), .g (.int .i64 s.m.A), .g (.int .i64 s.m.B), .g (.int .i64 s.m.C), .g (.int .i64 s.m.D), .g (.int .i64 s.m.E), .g (.int .i64 s.m.F), .g (.int .i64 s.m.R), .g (.int .i64 s.cap), .lst 1 s.q (bC s.dn), .lst 9 s.n (dN s.f)]] (.tup [j6 (nW f s), .one (.g (.int .i64 (ER f s)))]) := by
  have ha := rX h0
  have ha1 := ha.1
  have ha2 := ha.2.1
  have hk := agq ha.2.2.2
  have hn := hf.n
  have hcl := fZ f 0
  have hupd2 := DY (L := iT f 0) (i := iN f s.ch) (by omega) s
  simp only [c13] at hupd2
  refine ak Tryz.func35 rfl (by rw [Tryz.ntmps35]; simp) ?_
  simp only [Tryz.ntmps35, zM, PT.tv, au, Nat.zero_add, Nat.reduceAdd]
  repeat' (first
 | ((with_reducible show AW _ _ _ _); first
 | (with_reducible first | refine aS (fun K hK => ?_) | refine aI ?_ | refine aT ?_ | refine aC ?_)
 | (first
 | (with_reducible first | refine aP 0 [0,1] ?_ | refine aP 1 [2,3,4] ?_ | refine aP 3 [2,3,4] ?_ | refine aP 4 [2,3,4,6,7] ?_)
 | ((with_reducible refine aR (c := Code.region 6 _ true) [2,3,4,6] ?_); (with_reducible refine aD ?_ ?_ ?_ ?_); (focus kernel_rfl); (focus kernel_rfl); (focus kernel_rfl))
 | (with_reducible first | refine aP 7 [4] ?_ | refine aP 8 [2,3,4,6] ?_ | refine aP 9 [2,3,4,6] ?_ | refine qx (c := Code.region 10 _ false) [3] ?_ (aP 10 [2,4] ?_))))
 | ((first | (with_reducible refine And.intro ?_ ?_) | (with_reducible refine Need.mk ?_)); focus (first | exact lQ _ | first | exact True.intro | omega))
 | (with_reducible refine aK ?_)
 | ((with_reducible show bL _ _ _ _ _ _); first
 | ((with_reducible refine aN ?_ ?_) <;> (intro hc; (try simp only [zB, zC, reduceCtorEq] at hc); (try (exfalso; contradiction)))))
 | ((with_reducible refine And.intro ?_ ?_); focus ((with_reducible show iL _ _ _ = true); kernel_rfl))
 | ((with_reducible show aZ _ _ _ _ _ _ _ _ _ _); first
 | (refine aG (k := 48) iq (iE s hs) ?_ ?_)
 | (refine aG (k := 45) jD (mH f hf s.ch) ?_ ?_)
 | (refine aG (k := 44) F7 (Wq (rpF f (iN f s.ch) s) (WM hf (by omega) hs) hk _ _ (aez (f := f) (j := (iN f s.ch)) (s := s)) (fun i o _ _ => IV.bn _)) ?_ ?_)
 | (refine lV (k := 80) GA (uR (Ir f.k (iR f.S) hk) (i := 3) rfl) ?_ ?_))
 | ((fail_if_success (with_reducible show AW _ _ _ _)); simp (maxSteps := 2000000) only [go_sem, reduceIte, reduceCtorEq, xA, xL, xD, xE, xM, xS, xB, Tryz.f35, dh, cB, cK, cO, cu, cZ, bZ, bY, bX, dw, bJ, bH, bI, bC, h1, h0, ha1, nQ, gI, qH, eH, fZ, List.length_set, hupd2])
 | ((with_reducible refine hK _ ?_); clear hK K))
  all_goals first
    | (have e := agI h1 h0 (by assumption); rw [e.1, e.2]; unfold qA; (repeat' (first | exact rfl | (with_reducible refine And.intro ?_ ?_))); done)
    | (have e := af0 h1 h0 (by omega); rw [e.1, e.2]; (repeat' (first | exact rfl | (with_reducible refine And.intro ?_ ?_) | (intro i q hi hq; exact IV.bn _))); done)
    | skip
theorem agv (f : aj) (hf : f.Ok) (s : aF) (hs : s.Ok) : aA Tryz.prog 35 [j6 f, .agg [.g (.int .i64 s.ch), .g (.int .i64 s.sc), .g (.int .i64 s.ed), .g (.int .i64 s.m.A), .g (.int .i64 s.m.B), .g (.int .i64 s.m.C), .g (.int .i64 s.m.D), .g (.int .i64 s.m.E), .g (.int .i64 s.m.F), .g (.int .i64 s.m.R), .g (.int .i64 s.cap), .lst 1 s.q (bC s.dn), .lst 9 s.n (dN s.f)]] (.tup [j6 (nW f s), .one (.g (.int .i64 (ER f s)))]) := by
  cases h1 : dW s
  · exact alC f hf s hs h1
  · by_cases h0 : iO f s.ch = 0
    · exact alo f hf s hs h1 h0
    · exact alO f hf s hs h1 h0
end Go.Proofs.YtcfechepbamhkaaGreat
set_option maxRecDepth 100000
namespace Go.Sea
open Go.RowKit Go.Sea
def aiz (ops : Array Oper) (m i : Nat) : Bool := !(m.testBit i) && match ops[i]? with
  | some o => o.after.toList.all fun e => !Region.binds .any e || m.testBit e.on
  | none => false
def akP (ops : Array Oper) (Ms : List Nat) (Es : List (Nat × Nat × Nat)) : Bool := Ms.contains 0 && Ms.all fun m => (List.range ops.size).all fun i => !(aiz ops m i) || (Es.contains (m, i, m ||| 2 ^ i) && Ms.contains (m ||| 2 ^ i))
def aoC (ops : Array Oper) (Ms : List Nat) (mf : Nat) : Bool := Ms.all fun m => ((List.range ops.size).any fun i => !(m.testBit i)) || m == mf
theorem um {w0 : World} {Z0 : Fr} {s s' : AS} {a : Act} {w : World} {L : List Nat} (h : Leaf ⟨bG s.env L, s.heap, s.N, s.gh, s.lp⟩ s') (R : mE w0 Z0 s a w) : mE w0 Z0 s' a w := by
  obtain ⟨rfl⟩ := h
  obtain ⟨J, Z, R⟩ := R
  exact ⟨J, Z, R.nodef, R.size, R.below, R.zfrom, R.zlt, R.jlt, R.inj, R.hole, R.blk, fun t => by
    rcases Da s.env t L with e | e
    · show bB _ _ _ _ (lk (bG s.env L) t); rw [e]; trivial
    · show bB _ _ _ _ (lk (bG s.env L) t); rw [e]; exact R.slots t, R.ghost, R.loops, R.lnd, R.ro⟩
end Go.Sea
set_option maxRecDepth 100000
set_option maxHeartbeats 4000000
namespace Go.Proofs.YtcfechepbamhkaaGreat
open Go.RowKit Go.Sea
open Nat renaming reduceAdd -> xA, reduceLT -> xL, reduceLeDiff -> xD, reduceEqDiff -> xE, reduceMul -> xM, reduceSub -> xS, reduceBEq -> xB
theorem ab5 : aM Tryz.prog 69 = true := by kernel_rfl
theorem aci : dA Tryz.prog 25 0 = some (0, 1) := by kernel_rfl
attribute [go_sem] ab5 aci
theorem adz {s : aF} (h : dW s = true) : 1 <= s.ch /\ s.ch <= 1000 := by
  unfold dW at h; simp only [Bool.and_eq_true, decide_eq_true_eq] at h; omega
def dU (f : aj) (s : aF) : AV := .t (.one (.iv (.g (.int .i64 (iN f s.ch : Int)))))
def dV (f : aj) (s : aF) : Option (List CV) := some [.iv (.lst 13 f.k (iR f.S)), .iv (.lst 7 f.n (dX f.N))]
def dS (f : aj) (s : aF) : Option (List CV) := some [.iv (.g (.int .i64 s.ch)), .iv (.g (.int .i64 s.sc)), .iv (.g (.int .i64 s.ed)), .iv (.g (.int .i64 s.m.A)), .iv (.g (.int .i64 s.m.B)), .iv (.g (.int .i64 s.m.C)), .iv (.g (.int .i64 s.m.D)), .iv (.g (.int .i64 s.m.E)), .iv (.g (.int .i64 s.m.F)), .iv (.g (.int .i64 s.m.R)), .iv (.g (.int .i64 s.cap)), .iv (.lst 1 s.q (bC s.dn)), .iv (.lst 9 s.n (dN s.f))]
def dz (f : aj) (s : aF) : Option (List CV) := some [.iv (.g (.slice none 0 0)), .iv (.g (.slice none 0 0))]
def jO (f : aj) (s : aF) : AV := .t (.one (.slc 3 0 0 13))
def nU (f : aj) (s : aF) : AV := .t (.one (.iv (.lst 13 f.k (iR f.S))))
def BI (f : aj) (s : aF) : AV := .t (.one (.slc 3 0 f.k 13))
def mG (f : aj) (s : aF) : AV := .t (.one (.iv (.lst 7 f.n (dX f.N))))
def gT (m : Nat) : List Nat := if m = 0 then [2,3,4,6] else if m = 1 then [2,3,4,6,34] else if m = 2 then [2,3,4,6,35] else if m = 3 then [2,3,4,6,34,35] else if m = 6 then [2,3,4,6,36] else if m = 7 then [2,3,4,6,34,36] else if m = 15 then [2,3,4,6,37] else if m = 16 then [2,3,4,6,38] else if m = 17 then [2,3,4,6,34,38] else if m = 18 then [2,3,4,6,35,38] else if m = 19 then [2,3,4,6,34,35,38] else if m = 22 then [2,3,4,6,36,38] else if m = 23 then [2,3,4,6,34,36,38] else if m = 31 then [2,3,4,6,37,38] else if m = 48 then [2,3,4,6,39] else if m = 49 then [2,3,4,6,34,39] else if m = 50 then [2,3,4,6,35,39] else if m = 51 then [2,3,4,6,34,35,39] else if m = 54 then [2,3,4,6,36,39] else if m = 55 then [2,3,4,6,34,36,39] else if m = 63 then [2,3,4,6,37,39] else if m = 127 then [2,3,4,6,40] else if m = 128 then [2,3,4,6,7] else if m = 129 then [2,3,4,6,34,7] else if m = 130 then [2,3,4,6,35,7] else if m = 131 then [2,3,4,6,34,35,7] else if m = 134 then [2,3,4,6,36,7] else if m = 135 then [2,3,4,6,34,36,7] else if m = 143 then [2,3,4,6,37,7] else if m = 144 then [2,3,4,6,38,7] else if m = 145 then [2,3,4,6,34,38,7] else if m = 146 then [2,3,4,6,35,38,7] else if m = 147 then [2,3,4,6,34,35,38,7] else if m = 150 then [2,3,4,6,36,38,7] else if m = 151 then [2,3,4,6,34,36,38,7] else if m = 159 then [2,3,4,6,37,38,7] else if m = 176 then [2,3,4,6,39,7] else if m = 177 then [2,3,4,6,34,39,7] else if m = 178 then [2,3,4,6,35,39,7] else if m = 179 then [2,3,4,6,34,35,39,7] else if m = 182 then [2,3,4,6,36,39,7] else if m = 183 then [2,3,4,6,34,36,39,7] else if m = 191 then [2,3,4,6,37,39,7] else if m = 255 then [2,3,4,6,40,7] else if m = 511 then [3,4,6,7] else []
theorem ajR : gT 0 = [2,3,4,6] := rfl
theorem ahT : gT 1 = [2,3,4,6,34] := rfl
theorem agW : gT 2 = [2,3,4,6,35] := rfl
theorem ahc : gT 3 = [2,3,4,6,34,35] := rfl
theorem ahg : gT 6 = [2,3,4,6,36] := rfl
theorem aja : gT 7 = [2,3,4,6,34,36] := rfl
theorem ada : gT 15 = [2,3,4,6,37] := rfl
theorem aea : gT 16 = [2,3,4,6,38] := rfl
theorem ac9 : gT 17 = [2,3,4,6,34,38] := rfl
theorem afR : gT 18 = [2,3,4,6,35,38] := rfl
theorem acQ : gT 19 = [2,3,4,6,34,35,38] := rfl
theorem adk : gT 22 = [2,3,4,6,36,38] := rfl
theorem afu : gT 23 = [2,3,4,6,34,36,38] := rfl
theorem afy : gT 31 = [2,3,4,6,37,38] := rfl
theorem aeG : gT 48 = [2,3,4,6,39] := rfl
theorem afd : gT 49 = [2,3,4,6,34,39] := rfl
theorem acS : gT 50 = [2,3,4,6,35,39] := rfl
theorem aa8 : gT 51 = [2,3,4,6,34,35,39] := rfl
theorem abS : gT 54 = [2,3,4,6,36,39] := rfl
theorem afF : gT 55 = [2,3,4,6,34,36,39] := rfl
theorem aeu : gT 63 = [2,3,4,6,37,39] := rfl
theorem XG : gT 127 = [2,3,4,6,40] := rfl
theorem Xv : gT 128 = [2,3,4,6,7] := rfl
theorem UJ : gT 129 = [2,3,4,6,34,7] := rfl
theorem Z8 : gT 130 = [2,3,4,6,35,7] := rfl
theorem Ud : gT 131 = [2,3,4,6,34,35,7] := rfl
theorem YM : gT 134 = [2,3,4,6,36,7] := rfl
theorem Wy : gT 135 = [2,3,4,6,34,36,7] := rfl
theorem XD : gT 143 = [2,3,4,6,37,7] := rfl
theorem aai : gT 144 = [2,3,4,6,38,7] := rfl
theorem YA : gT 145 = [2,3,4,6,34,38,7] := rfl
theorem XU : gT 146 = [2,3,4,6,35,38,7] := rfl
theorem Z9 : gT 147 = [2,3,4,6,34,35,38,7] := rfl
theorem aam : gT 150 = [2,3,4,6,36,38,7] := rfl
theorem aav : gT 151 = [2,3,4,6,34,36,38,7] := rfl
theorem Yo : gT 159 = [2,3,4,6,37,38,7] := rfl
theorem aaP : gT 176 = [2,3,4,6,39,7] := rfl
theorem aaN : gT 177 = [2,3,4,6,34,39,7] := rfl
theorem XH : gT 178 = [2,3,4,6,35,39,7] := rfl
theorem aaF : gT 179 = [2,3,4,6,34,35,39,7] := rfl
theorem Xk : gT 182 = [2,3,4,6,36,39,7] := rfl
theorem XV : gT 183 = [2,3,4,6,34,36,39,7] := rfl
theorem UA : gT 191 = [2,3,4,6,37,39,7] := rfl
theorem Ze : gT 255 = [2,3,4,6,40,7] := rfl
theorem aan : gT 511 = [3,4,6,7] := rfl
def Hw (f : aj) (s : aF) : AS := ⟨[(2, .t (.one (.ptr 0 0))), (3, .t (.one (.ptr 1 0))), (4, .t (.one (.ptr 2 0))), (6, (dU f s))], [(dV f s), (dS f s), (dz f s)], 48, [], LP.top⟩
def Lu (f : aj) (s : aF) : AS := ⟨[(2, .t (.one (.ptr 0 0))), (3, .t (.one (.ptr 1 0))), (4, .t (.one (.ptr 2 0))), (6, (dU f s)), (34, (jO f s))], [(dV f s), (dS f s), (dz f s), some []], 48, [], LP.top⟩
def Mx (f : aj) (s : aF) : AS := ⟨[(2, .t (.one (.ptr 0 0))), (3, .t (.one (.ptr 1 0))), (4, .t (.one (.ptr 2 0))), (6, (dU f s)), (35, .t (.one (.ptr 0 0)))], [(dV f s), (dS f s), (dz f s)], 48, [], LP.top⟩
def Ma (f : aj) (s : aF) : AS := ⟨[(2, .t (.one (.ptr 0 0))), (3, .t (.one (.ptr 1 0))), (4, .t (.one (.ptr 2 0))), (6, (dU f s)), (34, (jO f s)), (35, .t (.one (.ptr 0 0)))], [(dV f s), (dS f s), (dz f s), some []], 48, [], LP.top⟩
def Nf (f : aj) (s : aF) : AS := ⟨[(2, .t (.one (.ptr 0 0))), (3, .t (.one (.ptr 1 0))), (4, .t (.one (.ptr 2 0))), (6, (dU f s)), (36, (nU f s))], [(dV f s), (dS f s), (dz f s)], 48, [], LP.top⟩
def MK (f : aj) (s : aF) : AS := ⟨[(2, .t (.one (.ptr 0 0))), (3, .t (.one (.ptr 1 0))), (4, .t (.one (.ptr 2 0))), (6, (dU f s)), (34, (jO f s)), (36, (nU f s))], [(dV f s), (dS f s), (dz f s), some []], 48, [], LP.top⟩
def Hg (f : aj) (s : aF) : AS := ⟨[(2, .t (.one (.ptr 0 0))), (3, .t (.one (.ptr 1 0))), (4, .t (.one (.ptr 2 0))), (6, (dU f s)), (37, (BI f s))], [(dV f s), (dS f s), (dz f s), some (eY (iT f 0))], 48, [], LP.top⟩
def Gn (f : aj) (s : aF) : AS := ⟨[(2, .t (.one (.ptr 0 0))), (3, .t (.one (.ptr 1 0))), (4, .t (.one (.ptr 2 0))), (6, (dU f s)), (38, .t (.one (.ptr 0 1)))], [(dV f s), (dS f s), (dz f s)], 48, [], LP.top⟩
def Gg (f : aj) (s : aF) : AS := ⟨[(2, .t (.one (.ptr 0 0))), (3, .t (.one (.ptr 1 0))), (4, .t (.one (.ptr 2 0))), (6, (dU f s)), (34, (jO f s)), (38, .t (.one (.ptr 0 1)))], [(dV f s), (dS f s), (dz f s), some []], 48, [], LP.top⟩
def GH (f : aj) (s : aF) : AS := ⟨[(2, .t (.one (.ptr 0 0))), (3, .t (.one (.ptr 1 0))), (4, .t (.one (.ptr 2 0))), (6, (dU f s)), (35, .t (.one (.ptr 0 0))), (38, .t (.one (.ptr 0 1)))], [(dV f s), (dS f s), (dz f s)], 48, [], LP.top⟩
def Ib (f : aj) (s : aF) : AS := ⟨[(2, .t (.one (.ptr 0 0))), (3, .t (.one (.ptr 1 0))), (4, .t (.one (.ptr 2 0))), (6, (dU f s)), (34, (jO f s)), (35, .t (.one (.ptr 0 0))), (38, .t (.one (.ptr 0 1)))], [(dV f s), (dS f s), (dz f s), some []], 48, [], LP.top⟩
def Ic (f : aj) (s : aF) : AS := ⟨[(2, .t (.one (.ptr 0 0))), (3, .t (.one (.ptr 1 0))), (4, .t (.one (.ptr 2 0))), (6, (dU f s)), (36, (nU f s)), (38, .t (.one (.ptr 0 1)))], [(dV f s), (dS f s), (dz f s)], 48, [], LP.top⟩
def Gj (f : aj) (s : aF) : AS := ⟨[(2, .t (.one (.ptr 0 0))), (3, .t (.one (.ptr 1 0))), (4, .t (.one (.ptr 2 0))), (6, (dU f s)), (34, (jO f s)), (36, (nU f s)), (38, .t (.one (.ptr 0 1)))], [(dV f s), (dS f s), (dz f s), some []], 48, [], LP.top⟩
def F6 (f : aj) (s : aF) : AS := ⟨[(2, .t (.one (.ptr 0 0))), (3, .t (.one (.ptr 1 0))), (4, .t (.one (.ptr 2 0))), (6, (dU f s)), (37, (BI f s)), (38, .t (.one (.ptr 0 1)))], [(dV f s), (dS f s), (dz f s), some (eY (iT f 0))], 48, [], LP.top⟩
def Gr (f : aj) (s : aF) : AS := ⟨[(2, .t (.one (.ptr 0 0))), (3, .t (.one (.ptr 1 0))), (4, .t (.one (.ptr 2 0))), (6, (dU f s)), (39, (mG f s))], [(dV f s), (dS f s), (dz f s)], 48, [], LP.top⟩
def He (f : aj) (s : aF) : AS := ⟨[(2, .t (.one (.ptr 0 0))), (3, .t (.one (.ptr 1 0))), (4, .t (.one (.ptr 2 0))), (6, (dU f s)), (34, (jO f s)), (39, (mG f s))], [(dV f s), (dS f s), (dz f s), some []], 48, [], LP.top⟩
def FB (f : aj) (s : aF) : AS := ⟨[(2, .t (.one (.ptr 0 0))), (3, .t (.one (.ptr 1 0))), (4, .t (.one (.ptr 2 0))), (6, (dU f s)), (35, .t (.one (.ptr 0 0))), (39, (mG f s))], [(dV f s), (dS f s), (dz f s)], 48, [], LP.top⟩
def Gs (f : aj) (s : aF) : AS := ⟨[(2, .t (.one (.ptr 0 0))), (3, .t (.one (.ptr 1 0))), (4, .t (.one (.ptr 2 0))), (6, (dU f s)), (34, (jO f s)), (35, .t (.one (.ptr 0 0))), (39, (mG f s))], [(dV f s), (dS f s), (dz f s), some []], 48, [], LP.top⟩
def FW (f : aj) (s : aF) : AS := ⟨[(2, .t (.one (.ptr 0 0))), (3, .t (.one (.ptr 1 0))), (4, .t (.one (.ptr 2 0))), (6, (dU f s)), (36, (nU f s)), (39, (mG f s))], [(dV f s), (dS f s), (dz f s)], 48, [], LP.top⟩
def Gu (f : aj) (s : aF) : AS := ⟨[(2, .t (.one (.ptr 0 0))), (3, .t (.one (.ptr 1 0))), (4, .t (.one (.ptr 2 0))), (6, (dU f s)), (34, (jO f s)), (36, (nU f s)), (39, (mG f s))], [(dV f s), (dS f s), (dz f s), some []], 48, [], LP.top⟩
def FV (f : aj) (s : aF) : AS := ⟨[(2, .t (.one (.ptr 0 0))), (3, .t (.one (.ptr 1 0))), (4, .t (.one (.ptr 2 0))), (6, (dU f s)), (37, (BI f s)), (39, (mG f s))], [(dV f s), (dS f s), (dz f s), some (eY (iT f 0))], 48, [], LP.top⟩
def Dl (f : aj) (s : aF) : AS := ⟨[(2, .t (.one (.ptr 0 0))), (3, .t (.one (.ptr 1 0))), (4, .t (.one (.ptr 2 0))), (6, (dU f s)), (40, .t (.agg [.slc 3 0 f.k 13, .iv (.lst 7 f.n (dX f.N))]))], [(dV f s), (dS f s), (dz f s), some (eY (iT f 0))], 48, [], LP.top⟩
def CX (f : aj) (s : aF) : AS := ⟨[(2, .t (.one (.ptr 0 0))), (3, .t (.one (.ptr 1 0))), (4, .t (.one (.ptr 2 0))), (6, (dU f s)), (7, .t (.one (.ptr 10 0)))], [(dV f s), (dS f s), (dz f s), none, none, none, none, none, none, none, (dz f s)], 48, [], LP.top⟩
def BZ (f : aj) (s : aF) : AS := ⟨[(2, .t (.one (.ptr 0 0))), (3, .t (.one (.ptr 1 0))), (4, .t (.one (.ptr 2 0))), (6, (dU f s)), (34, (jO f s)), (7, .t (.one (.ptr 10 0)))], [(dV f s), (dS f s), (dz f s), some [], none, none, none, none, none, none, (dz f s)], 48, [], LP.top⟩
def Bn (f : aj) (s : aF) : AS := ⟨[(2, .t (.one (.ptr 0 0))), (3, .t (.one (.ptr 1 0))), (4, .t (.one (.ptr 2 0))), (6, (dU f s)), (35, .t (.one (.ptr 0 0))), (7, .t (.one (.ptr 10 0)))], [(dV f s), (dS f s), (dz f s), none, none, none, none, none, none, none, (dz f s)], 48, [], LP.top⟩
def Bf (f : aj) (s : aF) : AS := ⟨[(2, .t (.one (.ptr 0 0))), (3, .t (.one (.ptr 1 0))), (4, .t (.one (.ptr 2 0))), (6, (dU f s)), (34, (jO f s)), (35, .t (.one (.ptr 0 0))), (7, .t (.one (.ptr 10 0)))], [(dV f s), (dS f s), (dz f s), some [], none, none, none, none, none, none, (dz f s)], 48, [], LP.top⟩
def Cz (f : aj) (s : aF) : AS := ⟨[(2, .t (.one (.ptr 0 0))), (3, .t (.one (.ptr 1 0))), (4, .t (.one (.ptr 2 0))), (6, (dU f s)), (36, (nU f s)), (7, .t (.one (.ptr 10 0)))], [(dV f s), (dS f s), (dz f s), none, none, none, none, none, none, none, (dz f s)], 48, [], LP.top⟩
def CS (f : aj) (s : aF) : AS := ⟨[(2, .t (.one (.ptr 0 0))), (3, .t (.one (.ptr 1 0))), (4, .t (.one (.ptr 2 0))), (6, (dU f s)), (34, (jO f s)), (36, (nU f s)), (7, .t (.one (.ptr 10 0)))], [(dV f s), (dS f s), (dz f s), some [], none, none, none, none, none, none, (dz f s)], 48, [], LP.top⟩
def Bh (f : aj) (s : aF) : AS := ⟨[(2, .t (.one (.ptr 0 0))), (3, .t (.one (.ptr 1 0))), (4, .t (.one (.ptr 2 0))), (6, (dU f s)), (37, (BI f s)), (7, .t (.one (.ptr 10 0)))], [(dV f s), (dS f s), (dz f s), some (eY (iT f 0)), none, none, none, none, none, none, (dz f s)], 48, [], LP.top⟩
def BS (f : aj) (s : aF) : AS := ⟨[(2, .t (.one (.ptr 0 0))), (3, .t (.one (.ptr 1 0))), (4, .t (.one (.ptr 2 0))), (6, (dU f s)), (38, .t (.one (.ptr 0 1))), (7, .t (.one (.ptr 10 0)))], [(dV f s), (dS f s), (dz f s), none, none, none, none, none, none, none, (dz f s)], 48, [], LP.top⟩
def D8 (f : aj) (s : aF) : AS := ⟨[(2, .t (.one (.ptr 0 0))), (3, .t (.one (.ptr 1 0))), (4, .t (.one (.ptr 2 0))), (6, (dU f s)), (34, (jO f s)), (38, .t (.one (.ptr 0 1))), (7, .t (.one (.ptr 10 0)))], [(dV f s), (dS f s), (dz f s), some [], none, none, none, none, none, none, (dz f s)], 48, [], LP.top⟩
def CP (f : aj) (s : aF) : AS := ⟨[(2, .t (.one (.ptr 0 0))), (3, .t (.one (.ptr 1 0))), (4, .t (.one (.ptr 2 0))), (6, (dU f s)), (35, .t (.one (.ptr 0 0))), (38, .t (.one (.ptr 0 1))), (7, .t (.one (.ptr 10 0)))], [(dV f s), (dS f s), (dz f s), none, none, none, none, none, none, none, (dz f s)], 48, [], LP.top⟩
def Ci (f : aj) (s : aF) : AS := ⟨[(2, .t (.one (.ptr 0 0))), (3, .t (.one (.ptr 1 0))), (4, .t (.one (.ptr 2 0))), (6, (dU f s)), (34, (jO f s)), (35, .t (.one (.ptr 0 0))), (38, .t (.one (.ptr 0 1))), (7, .t (.one (.ptr 10 0)))], [(dV f s), (dS f s), (dz f s), some [], none, none, none, none, none, none, (dz f s)], 48, [], LP.top⟩
def Bg (f : aj) (s : aF) : AS := ⟨[(2, .t (.one (.ptr 0 0))), (3, .t (.one (.ptr 1 0))), (4, .t (.one (.ptr 2 0))), (6, (dU f s)), (36, (nU f s)), (38, .t (.one (.ptr 0 1))), (7, .t (.one (.ptr 10 0)))], [(dV f s), (dS f s), (dz f s), none, none, none, none, none, none, none, (dz f s)], 48, [], LP.top⟩
def BU (f : aj) (s : aF) : AS := ⟨[(2, .t (.one (.ptr 0 0))), (3, .t (.one (.ptr 1 0))), (4, .t (.one (.ptr 2 0))), (6, (dU f s)), (34, (jO f s)), (36, (nU f s)), (38, .t (.one (.ptr 0 1))), (7, .t (.one (.ptr 10 0)))], [(dV f s), (dS f s), (dz f s), some [], none, none, none, none, none, none, (dz f s)], 48, [], LP.top⟩
def Aw (f : aj) (s : aF) : AS := ⟨[(2, .t (.one (.ptr 0 0))), (3, .t (.one (.ptr 1 0))), (4, .t (.one (.ptr 2 0))), (6, (dU f s)), (37, (BI f s)), (38, .t (.one (.ptr 0 1))), (7, .t (.one (.ptr 10 0)))], [(dV f s), (dS f s), (dz f s), some (eY (iT f 0)), none, none, none, none, none, none, (dz f s)], 48, [], LP.top⟩
def Dc (f : aj) (s : aF) : AS := ⟨[(2, .t (.one (.ptr 0 0))), (3, .t (.one (.ptr 1 0))), (4, .t (.one (.ptr 2 0))), (6, (dU f s)), (39, (mG f s)), (7, .t (.one (.ptr 10 0)))], [(dV f s), (dS f s), (dz f s), none, none, none, none, none, none, none, (dz f s)], 48, [], LP.top⟩
def A8 (f : aj) (s : aF) : AS := ⟨[(2, .t (.one (.ptr 0 0))), (3, .t (.one (.ptr 1 0))), (4, .t (.one (.ptr 2 0))), (6, (dU f s)), (34, (jO f s)), (39, (mG f s)), (7, .t (.one (.ptr 10 0)))], [(dV f s), (dS f s), (dz f s), some [], none, none, none, none, none, none, (dz f s)], 48, [], LP.top⟩
def DZ (f : aj) (s : aF) : AS := ⟨[(2, .t (.one (.ptr 0 0))), (3, .t (.one (.ptr 1 0))), (4, .t (.one (.ptr 2 0))), (6, (dU f s)), (35, .t (.one (.ptr 0 0))), (39, (mG f s)), (7, .t (.one (.ptr 10 0)))], [(dV f s), (dS f s), (dz f s), none, none, none, none, none, none, none, (dz f s)], 48, [], LP.top⟩
def Az (f : aj) (s : aF) : AS := ⟨[(2, .t (.one (.ptr 0 0))), (3, .t (.one (.ptr 1 0))), (4, .t (.one (.ptr 2 0))), (6, (dU f s)), (34, (jO f s)), (35, .t (.one (.ptr 0 0))), (39, (mG f s)), (7, .t (.one (.ptr 10 0)))], [(dV f s), (dS f s), (dz f s), some [], none, none, none, none, none, none, (dz f s)], 48, [], LP.top⟩
def Bb (f : aj) (s : aF) : AS := ⟨[(2, .t (.one (.ptr 0 0))), (3, .t (.one (.ptr 1 0))), (4, .t (.one (.ptr 2 0))), (6, (dU f s)), (36, (nU f s)), (39, (mG f s)), (7, .t (.one (.ptr 10 0)))], [(dV f s), (dS f s), (dz f s), none, none, none, none, none, none, none, (dz f s)], 48, [], LP.top⟩
def BG (f : aj) (s : aF) : AS := ⟨[(2, .t (.one (.ptr 0 0))), (3, .t (.one (.ptr 1 0))), (4, .t (.one (.ptr 2 0))), (6, (dU f s)), (34, (jO f s)), (36, (nU f s)), (39, (mG f s)), (7, .t (.one (.ptr 10 0)))], [(dV f s), (dS f s), (dz f s), some [], none, none, none, none, none, none, (dz f s)], 48, [], LP.top⟩
def Dq (f : aj) (s : aF) : AS := ⟨[(2, .t (.one (.ptr 0 0))), (3, .t (.one (.ptr 1 0))), (4, .t (.one (.ptr 2 0))), (6, (dU f s)), (37, (BI f s)), (39, (mG f s)), (7, .t (.one (.ptr 10 0)))], [(dV f s), (dS f s), (dz f s), some (eY (iT f 0)), none, none, none, none, none, none, (dz f s)], 48, [], LP.top⟩
def BH (f : aj) (s : aF) : AS := ⟨[(2, .t (.one (.ptr 0 0))), (3, .t (.one (.ptr 1 0))), (4, .t (.one (.ptr 2 0))), (6, (dU f s)), (40, .t (.agg [.slc 3 0 f.k 13, .iv (.lst 7 f.n (dX f.N))])), (7, .t (.one (.ptr 10 0)))], [(dV f s), (dS f s), (dz f s), some (eY (iT f 0)), none, none, none, none, none, none, (dz f s)], 48, [], LP.top⟩
def Bu (f : aj) (s : aF) : AS := ⟨[(3, .t (.one (.ptr 1 0))), (4, .t (.one (.ptr 2 0))), (6, (dU f s)), (7, .t (.one (.ptr 10 0)))], [(dV f s), (dS f s), (dz f s), some (eY (iT f 0)), none, none, none, none, none, none, some [.slc 3 0 f.k 13, .iv (.lst 7 f.n (dX f.N))]], 48, [], LP.top⟩
def gU (f : aj) (s : aF) (m : Nat) : AS := if m = 0 then Hw f s else if m = 1 then Lu f s else if m = 2 then Mx f s else if m = 3 then Ma f s else if m = 6 then Nf f s else if m = 7 then MK f s else if m = 15 then Hg f s else if m = 16 then Gn f s else if m = 17 then Gg f s else if m = 18 then GH f s else if m = 19 then Ib f s else if m = 22 then Ic f s else if m = 23 then Gj f s else if m = 31 then F6 f s else if m = 48 then Gr f s else if m = 49 then He f s else if m = 50 then FB f s else if m = 51 then Gs f s else if m = 54 then FW f s else if m = 55 then Gu f s else if m = 63 then FV f s else if m = 127 then Dl f s else if m = 128 then CX f s else if m = 129 then BZ f s else if m = 130 then Bn f s else if m = 131 then Bf f s else if m = 134 then Cz f s else if m = 135 then CS f s else if m = 143 then Bh f s else if m = 144 then BS f s else if m = 145 then D8 f s else if m = 146 then CP f s else if m = 147 then Ci f s else if m = 150 then Bg f s else if m = 151 then BU f s else if m = 159 then Aw f s else if m = 176 then Dc f s else if m = 177 then A8 f s else if m = 178 then DZ f s else if m = 179 then Az f s else if m = 182 then Bb f s else if m = 183 then BG f s else if m = 191 then Dq f s else if m = 255 then BH f s else if m = 511 then Bu f s else Hw f s
theorem aiq (f : aj) (s : aF) : gU f s 0 = Hw f s := rfl
theorem aio (f : aj) (s : aF) : gU f s 1 = Lu f s := rfl
theorem ahX (f : aj) (s : aF) : gU f s 2 = Mx f s := rfl
theorem ah5 (f : aj) (s : aF) : gU f s 3 = Ma f s := rfl
theorem ajj (f : aj) (s : aF) : gU f s 6 = Nf f s := rfl
theorem ahb (f : aj) (s : aF) : gU f s 7 = MK f s := rfl
theorem aey (f : aj) (s : aF) : gU f s 15 = Hg f s := rfl
theorem aev (f : aj) (s : aF) : gU f s 16 = Gn f s := rfl
theorem afG (f : aj) (s : aF) : gU f s 17 = Gg f s := rfl
theorem abX (f : aj) (s : aF) : gU f s 18 = GH f s := rfl
theorem abI (f : aj) (s : aF) : gU f s 19 = Ib f s := rfl
theorem afp (f : aj) (s : aF) : gU f s 22 = Ic f s := rfl
theorem adH (f : aj) (s : aF) : gU f s 23 = Gj f s := rfl
theorem abG (f : aj) (s : aF) : gU f s 31 = F6 f s := rfl
theorem afH (f : aj) (s : aF) : gU f s 48 = Gr f s := rfl
theorem adh (f : aj) (s : aF) : gU f s 49 = He f s := rfl
theorem afq (f : aj) (s : aF) : gU f s 50 = FB f s := rfl
theorem ab8 (f : aj) (s : aF) : gU f s 51 = Gs f s := rfl
theorem afK (f : aj) (s : aF) : gU f s 54 = FW f s := rfl
theorem abf (f : aj) (s : aF) : gU f s 55 = Gu f s := rfl
theorem aeB (f : aj) (s : aF) : gU f s 63 = FV f s := rfl
theorem Wv (f : aj) (s : aF) : gU f s 127 = Dl f s := rfl
theorem Uk (f : aj) (s : aF) : gU f s 128 = CX f s := rfl
theorem aak (f : aj) (s : aF) : gU f s 129 = BZ f s := rfl
theorem aaU (f : aj) (s : aF) : gU f s 130 = Bn f s := rfl
theorem Ya (f : aj) (s : aF) : gU f s 131 = Bf f s := rfl
theorem Ve (f : aj) (s : aF) : gU f s 134 = Cz f s := rfl
theorem Z5 (f : aj) (s : aF) : gU f s 135 = CS f s := rfl
theorem VU (f : aj) (s : aF) : gU f s 143 = Bh f s := rfl
theorem WB (f : aj) (s : aF) : gU f s 144 = BS f s := rfl
theorem Z6 (f : aj) (s : aF) : gU f s 145 = D8 f s := rfl
theorem WR (f : aj) (s : aF) : gU f s 146 = CP f s := rfl
theorem Vj (f : aj) (s : aF) : gU f s 147 = Ci f s := rfl
theorem Wo (f : aj) (s : aF) : gU f s 150 = Bg f s := rfl
theorem aaO (f : aj) (s : aF) : gU f s 151 = BU f s := rfl
theorem aay (f : aj) (s : aF) : gU f s 159 = Aw f s := rfl
theorem XF (f : aj) (s : aF) : gU f s 176 = Dc f s := rfl
theorem Xb (f : aj) (s : aF) : gU f s 177 = A8 f s := rfl
theorem ZN (f : aj) (s : aF) : gU f s 178 = DZ f s := rfl
theorem XL (f : aj) (s : aF) : gU f s 179 = Az f s := rfl
theorem aaW (f : aj) (s : aF) : gU f s 182 = Bb f s := rfl
theorem Yc (f : aj) (s : aF) : gU f s 183 = BG f s := rfl
theorem aaA (f : aj) (s : aF) : gU f s 191 = Dq f s := rfl
theorem aaL (f : aj) (s : aF) : gU f s 255 = BH f s := rfl
theorem U2 (f : aj) (s : aF) : gU f s 511 = Bu f s := rfl
attribute [go_sem] dU dV dS dz jO nU BI mG ajR Hw aiq ahT Lu aio agW Mx ahX ahc Ma ah5 ahg Nf ajj aja MK ahb ada Hg aey aea Gn aev ac9 Gg afG afR GH abX acQ Ib abI adk Ic afp afu Gj adH afy F6 abG aeG Gr afH afd He adh acS FB afq aa8 Gs ab8 abS FW afK afF Gu abf aeu FV aeB XG Dl Wv Xv CX Uk UJ BZ aak Z8 Bn aaU Ud Bf Ya YM Cz Ve Wy CS Z5 XD Bh VU aai BS WB YA D8 Z6 XU CP WR Z9 Ci Vj aam Bg Wo aav BU aaO Yo Aw aay aaP Dc XF aaN A8 Xb XH DZ ZN aaF Az XL Xk Bb aaW XV BG Yc UA Dq aaA Ze BH aaL aan Bu U2
end Go.Proofs.YtcfechepbamhkaaGreat
namespace Go.Proofs.YtcfechepbamhkaaGreat
open Go.RowKit Go.Sea
def c7 (s : ah) : List CV := [.iv (.g (.int .i64 s.oc)), .iv (.g (.int .i64 s.nu)), .iv (.g (.int .i64 s.kd)), .iv (.g (.int .i64 s.fr)), .iv (.g (.int .i64 s.un)), .iv (.g (.int .i64 s.ca)), .iv (.lst 3 s.n (dZ s.p))]
def iB (l : List ah) : List CV := l.flatMap c7
theorem GD (l : List ah) : ∀ c, c ∈ iB l -> j4 c := by
  intro c hc
  obtain ⟨s, _, h⟩ := List.mem_flatMap.1 hc
  simp only [c7, List.mem_cons, List.not_mem_nil, or_false] at h
  rcases h with rfl | rfl | rfl | rfl | rfl | rfl | rfl <;> trivial
theorem jy (l : List ah) : (iB l).length = l.length * 7 := by
  induction l with
  | nil => rfl
  | cons s l ih => show (c7 s ++ iB l).length = _; rw [List.length_append, ih, List.length_cons]; show 7 + _ = _; omega
theorem mF (l : List ah) (i : Nat) : List.map (CV.bU i) (iB l) = iB l := l6 i (GD l)
theorem mq (l : List ah) (i : Nat) (cs : List CV) : List.map (pO i cs) (iB l) = iB l := FX _ (GD l)
theorem Cj : ∀ (l : List ah) (i o : Nat), i < l.length -> o < 7 -> (iB l).getD (i * 7 + o) .any = (c7 (l.getD i Em)).getD o .any
  | [], i, _, hi, _ => absurd hi (Nat.not_lt_zero i)
  | s :: l, 0, o, _, ho => by
    show (c7 s ++ iB l).getD (0 * 7 + o) .any = _
    rw [Nat.zero_mul, Nat.zero_add, List.getD, List.getElem?_append_left (by show o < 7; exact ho)]; rfl
  | s :: l, i + 1, o, hi, ho => by
    show (c7 s ++ iB l).getD ((i + 1) * 7 + o) .any = _
    have e : (i + 1) * 7 + o = 7 + (i * 7 + o) := by omega
    rw [e, List.getD, List.getElem?_append_right (by show 7 <= 7 + (i * 7 + o); omega)]
    show ((iB l)[7 + (i * 7 + o) - 7]?).getD .any = _
    rw [Nat.add_sub_cancel_left]
    exact Cj l i o (by simpa using hi) ho
set_option maxRecDepth 100000 in
theorem aaw (l : List ah) : ∀ i o, i < l.length -> o < 7 -> (Im ((iB l).getD (i * 7 + o) .any)).eqv (afo (l.getD i Em) o) := fun i o hi ho => by
  rw [Cj l i o hi ho]
  rcases (by omega : o = 0 \/ o = 1 \/ o = 2 \/ o = 3 \/ o = 4 \/ o = 5 \/ o = 6) with rfl | rfl | rfl | rfl | rfl | rfl | rfl <;> exact IV.bn _
def jr (f : aj) (M : ah) : Nat := jM (fun i => decide (M.nu <= (f.N i).nu)) f.n
def zD (f : aj) (j : Nat) (M : ah) (i : Nat) : ah := if i < j then f.N i else if i = j then M else f.N (i - 1)
def qj (f : aj) (M : ah) : Int := if gy f = true /\ iy M = true then (if 0 < f.n /\ (f.N 0).oc ≠ M.oc then 12 else if jr f M < f.n /\ (f.N (jr f M)).nu = M.nu then (if OE (f.N (jr f M)) M = true then 5 else 18) else if f.n = 200 then 2 else 0) else 1
def rcG (f : aj) (M : ah) : aj := ⟨f.k, f.S, f.n + 1, zD f (jr f M) M⟩
def dJ (f : aj) (M : ah) : aj := if qj f M = 0 then uz (rcG f M) else qA
def nL (f : aj) (i : Nat) : List ah := (List.range i).map f.N
theorem yN {f : aj} {M : ah} (h : qj f M ≠ 0) : dJ f M = qA := by unfold dJ; rw [if_neg h]
theorem akY {f : aj} {M : ah} (h : gy f = false \/ iy M = false) : qj f M = 1 := by
  unfold qj; rw [if_neg]; rintro ⟨a, b⟩; rcases h with h | h
  · rw [h] at a; cases a
  · rw [h] at b; cases b
theorem al3 {f : aj} {M : ah} (h : gy f = true /\ iy M = true) (h2 : 0 < f.n /\ (f.N 0).oc ≠ M.oc) : qj f M = 12 := by unfold qj; rw [if_pos h, if_pos h2]
theorem ak5 {f : aj} {M : ah} (h : gy f = true /\ iy M = true) (h2 : ¬ (0 < f.n /\ (f.N 0).oc ≠ M.oc)) (h3 : jr f M < f.n /\ (f.N (jr f M)).nu = M.nu) (h4 : OE (f.N (jr f M)) M = true) : qj f M = 5 := by unfold qj; rw [if_pos h, if_neg h2, if_pos h3, if_pos h4]
theorem am4 {f : aj} {M : ah} (h : gy f = true /\ iy M = true) (h2 : ¬ (0 < f.n /\ (f.N 0).oc ≠ M.oc)) (h3 : jr f M < f.n /\ (f.N (jr f M)).nu = M.nu) (h4 : OE (f.N (jr f M)) M = false) : qj f M = 18 := by unfold qj; rw [if_pos h, if_neg h2, if_pos h3, if_neg (by rw [h4]; simp)]
theorem Ow {f : aj} {M : ah} (h : gy f = true /\ iy M = true) (h2 : ¬ (0 < f.n /\ (f.N 0).oc ≠ M.oc)) (h3 : ¬ (jr f M < f.n /\ (f.N (jr f M)).nu = M.nu)) : qj f M = if f.n = 200 then 2 else 0 := by unfold qj; rw [if_pos h, if_neg h2, if_neg h3]
theorem p9 (f : aj) (M : ah) : jr f M <= f.n := rz _ _
end Go.Proofs.YtcfechepbamhkaaGreat
set_option maxRecDepth 100000
set_option maxHeartbeats 4000000
namespace Go.Proofs.YtcfechepbamhkaaGreat
open Go.RowKit Go.Sea
open Nat renaming reduceAdd -> xA, reduceLT -> xL, reduceLeDiff -> xD, reduceEqDiff -> xE, reduceMul -> xM, reduceSub -> xS, reduceBEq -> xB
theorem EZ {f : aj} {M : ah} (hv : gy f = true) {i : Nat} (hi : i < f.n) : (f.N i).nu < M.nu ↔ i < jr f M := by
  have hn := (kP (iJ hv).2.2).2
  constructor
  · intro h
    rcases Nat.lt_or_ge i (jr f M) with g | g
    · exact g
    · exfalso
      have hJ : jr f M < f.n := by omega
      have h1 := of_decide_eq_true ((iU (b := fun i => decide (M.nu <= (f.N i).nu)) (k := f.n)).2 hJ)
      have h2 := Uy hn (x := M.nu) h1 i g hi
      omega
  · intro h
    have := of_decide_eq_false ((iU (b := fun i => decide (M.nu <= (f.N i).nu)) (k := f.n)).1 i h)
    omega
theorem agi {f : aj} {M : ah} (hv : gy f = true) {i : Nat} (hi : i < f.n) (h : (f.N i).nu = M.nu) : i = jr f M := by
  have hn := (kP (iJ hv).2.2).2
  have h1 := mt (EZ (M := M) hv hi).2 (by omega)
  rcases Nat.lt_or_ge (jr f M) i with g | g
  · have h2 := mo hn i g hi
    have h3 := mt (EZ (M := M) hv (i := jr f M) (by omega)).1 (by omega)
    omega
  · omega
def K4 (f : aj) (M : ah) : List ah := (List.range (f.n + 1)).map (zD f (jr f M) M)
theorem afM (S : Nat -> ah) : ∀ (n : Nat), Go.Sea.eO (dX S) 7 n 0 = iB ((List.range n).map S) := fun n => by
  have hl : (Go.Sea.eO (dX S) 7 n 0).length = (iB ((List.range n).map S)).length := by rw [gK, jy]; simp
  refine List.ext_getElem? fun i => ?_
  by_cases h : i < n * 7
  · have e : i = i / 7 * 7 + i % 7 := by omega
    have h1 := pW (dX S) 7 n 0 (i / 7) (i % 7) (by omega) (Nat.mod_lt _ (by decide))
    rw [Nat.zero_add, <- e] at h1
    rw [h1]
    have h2 := Cj ((List.range n).map S) (i / 7) (i % 7) (by simp; omega) (Nat.mod_lt _ (by decide))
    rw [<- e] at h2
    have hlt : i < (iB ((List.range n).map S)).length := by rw [jy]; simp; omega
    rw [List.getD, List.getElem?_eq_getElem hlt, Option.getD_some] at h2
    rw [List.getElem?_eq_getElem hlt, h2]
    have e3 : ((List.range n).map S).getD (i / 7) Em = S (i / 7) := by
      have : i / 7 < n := by omega
      simp [List.getD, this]
    rw [e3]
    have hm := Nat.mod_lt i (show 0 < 7 by decide)
    generalize i % 7 = o at hm
    generalize i / 7 = q
    rcases (by omega : o = 0 \/ o = 1 \/ o = 2 \/ o = 3 \/ o = 4 \/ o = 5 \/ o = 6) with rfl | rfl | rfl | rfl | rfl | rfl | rfl <;> rfl
  · rw [List.getElem?_eq_none (by rw [gK]; omega), List.getElem?_eq_none (by rw [jy]; simp; omega)]
theorem alx {f : aj} {M : ah} : K4 f M = nL f (jr f M) ++ [M] ++ (List.range (f.n - jr f M)).map (fun i => f.N (jr f M + i)) := by
  have hJ := p9 f M
  refine List.ext_getElem (by simp [K4, nL]; omega) fun i h1 h2 => ?_
  simp only [K4, nL, List.getElem_map, List.getElem_range, List.getElem_append, List.length_append, List.length_map, List.length_range, List.length_cons, List.length_nil]
  unfold zD
  by_cases c1 : i < jr f M
  · rw [if_pos c1, dif_pos (by omega), dif_pos c1]
  · rw [if_neg c1]
    by_cases c2 : i = jr f M
    · rw [if_pos c2, dif_pos (by omega), dif_neg c1]; simp [c2]
    · rw [if_neg c2, dif_neg (by omega)]
      congr 1; omega
theorem mX (f : aj) (M : ah) : (K4 f M).length = f.n + 1 := by simp [K4]
theorem YB {f : aj} (hf : f.Ok) {M : ah} (ho : M.Ok) (hn : f.n <= 200) : (rcG f M).Ok := ⟨hf.k, hf.s, by show f.n + 1 <= _; omega, fun i hi => by
  have hi' : i < f.n + 1 := hi
  show (zD f (jr f M) M i).Ok
  have hJ := p9 f M
  unfold zD
  split
  · exact hf.nn i (by omega)
  · split
    · exact ho
    · exact hf.nn (i - 1) (by omega)⟩
theorem afb {f : aj} {M : ah} : ∀ i o, i < (rcG f M).n -> o < 7 -> (Im ((iB (K4 f M)).getD (i * 7 + o) .any)).eqv (dX (rcG f M).N i o) := fun i o hi ho => by
  have hi' : i < f.n + 1 := hi
  have h := aaw (K4 f M) i o (by rw [mX]; exact hi') ho
  rwa [show (K4 f M).getD i Em = (rcG f M).N i by simp [K4, List.getD, hi', rcG]] at h
theorem EO {f : aj} {M : ah} (h : qj f M = 0) : dJ f M = uz (rcG f M) := by unfold dJ; rw [if_pos h]
def aU (f : aj) (M : ah) : AV := .t (.one (.iv (.g (.int .i64 ((jr f M) : Int)))))
def bE (f : aj) (M : ah) : Option (List CV) := some [.iv (.lst 13 f.k (iR f.S)), .iv (.lst 7 f.n (dX f.N))]
def aQ (f : aj) (M : ah) : Option (List CV) := some [.iv (.g (.int .i64 M.oc)), .iv (.g (.int .i64 M.nu)), .iv (.g (.int .i64 M.kd)), .iv (.g (.int .i64 M.fr)), .iv (.g (.int .i64 M.un)), .iv (.g (.int .i64 M.ca)), .iv (.lst 3 M.n (dZ M.p))]
def bF (f : aj) (M : ah) : Option (List CV) := some [.iv (.g (.slice none 0 0)), .iv (.g (.slice none 0 0))]
def bN (f : aj) (M : ah) : Option (List CV) := some [.iv (.lst 13 f.k (iR f.S)), .slc 4 0 (jr f M) 7]
def bO (f : aj) (M : ah) : Option (List CV) := some (iB (nL f (jr f M)))
def gV (f : aj) (M : ah) : AV := .t (.one (.slc 4 0 (jr f M) 7))
def gW (f : aj) (M : ah) : AV := .t (.agg [.iv (.g (.int .i64 M.oc)), .iv (.g (.int .i64 M.nu)), .iv (.g (.int .i64 M.kd)), .iv (.g (.int .i64 M.fr)), .iv (.g (.int .i64 M.un)), .iv (.g (.int .i64 M.ca)), .iv (.lst 3 M.n (dZ M.p))])
def qp (f : aj) (M : ah) : AV := .t (.one (.slc 4 0 ((jr f M) + 1) 7))
def nC (f : aj) (M : ah) : Option (List CV) := some [.iv (.lst 13 f.k (iR f.S)), .any]
def mZ (f : aj) (M : ah) : Option (List CV) := some (iB (nL f (jr f M) ++ [M]))
def fK (f : aj) (M : ah) : AV := .t (.one (.iv (.lst 7 f.n (dX f.N))))
def jN (f : aj) (M : ah) : AV := .t (.one (.iv (.lst 7 (f.n - (jr f M)) (fun i o => dX f.N ((jr f M) + i) o))))
def bT (m : Nat) : List Nat := if m = 0 then [2,3,4,6,9] else if m = 1 then [2,3,4,6,9,78] else if m = 3 then [2,3,4,6,9,79] else if m = 4 then [2,3,4,6,9,80] else if m = 5 then [2,3,4,6,9,78,80] else if m = 7 then [2,3,4,6,9,79,80] else if m = 12 then [2,3,4,6,9,81] else if m = 13 then [2,3,4,6,9,78,81] else if m = 15 then [2,3,4,6,9,79,81] else if m = 31 then [2,3,4,6,9,82] else if m = 32 then [2,3,4,6,9,83] else if m = 33 then [2,3,4,6,9,78,83] else if m = 35 then [2,3,4,6,9,79,83] else if m = 36 then [2,3,4,6,9,80,83] else if m = 37 then [2,3,4,6,9,78,80,83] else if m = 39 then [2,3,4,6,9,79,80,83] else if m = 44 then [2,3,4,6,9,81,83] else if m = 45 then [2,3,4,6,9,78,81,83] else if m = 47 then [2,3,4,6,9,79,81,83] else if m = 63 then [2,3,4,6,9,82,83] else if m = 96 then [2,3,4,6,9,84] else if m = 97 then [2,3,4,6,9,78,84] else if m = 99 then [2,3,4,6,9,79,84] else if m = 100 then [2,3,4,6,9,80,84] else if m = 101 then [2,3,4,6,9,78,80,84] else if m = 103 then [2,3,4,6,9,79,80,84] else if m = 108 then [2,3,4,6,9,81,84] else if m = 109 then [2,3,4,6,9,78,81,84] else if m = 111 then [2,3,4,6,9,79,81,84] else if m = 127 then [2,3,4,6,9,82,84] else if m = 128 then [2,3,4,6,9,85] else if m = 129 then [2,3,4,6,9,78,85] else if m = 131 then [2,3,4,6,9,79,85] else if m = 132 then [2,3,4,6,9,80,85] else if m = 133 then [2,3,4,6,9,78,80,85] else if m = 135 then [2,3,4,6,9,79,80,85] else if m = 140 then [2,3,4,6,9,81,85] else if m = 141 then [2,3,4,6,9,78,81,85] else if m = 143 then [2,3,4,6,9,79,81,85] else if m = 159 then [2,3,4,6,9,82,85] else if m = 160 then [2,3,4,6,9,83,85] else if m = 161 then [2,3,4,6,9,78,83,85] else if m = 163 then [2,3,4,6,9,79,83,85] else if m = 164 then [2,3,4,6,9,80,83,85] else if m = 165 then [2,3,4,6,9,78,80,83,85] else if m = 167 then [2,3,4,6,9,79,80,83,85] else if m = 172 then [2,3,4,6,9,81,83,85] else if m = 173 then [2,3,4,6,9,78,81,83,85] else if m = 175 then [2,3,4,6,9,79,81,83,85] else if m = 191 then [2,3,4,6,9,82,83,85] else if m = 224 then [2,3,4,6,9,84,85] else if m = 225 then [2,3,4,6,9,78,84,85] else if m = 227 then [2,3,4,6,9,79,84,85] else if m = 228 then [2,3,4,6,9,80,84,85] else if m = 229 then [2,3,4,6,9,78,80,84,85] else if m = 231 then [2,3,4,6,9,79,80,84,85] else if m = 236 then [2,3,4,6,9,81,84,85] else if m = 237 then [2,3,4,6,9,78,81,84,85] else if m = 239 then [2,3,4,6,9,79,81,84,85] else if m = 255 then [2,3,4,6,9,82,84,85] else if m = 480 then [2,3,4,6,9,86] else if m = 481 then [2,3,4,6,9,78,86] else if m = 483 then [2,3,4,6,9,79,86] else if m = 484 then [2,3,4,6,9,80,86] else if m = 485 then [2,3,4,6,9,78,80,86] else if m = 487 then [2,3,4,6,9,79,80,86] else if m = 492 then [2,3,4,6,9,81,86] else if m = 493 then [2,3,4,6,9,78,81,86] else if m = 495 then [2,3,4,6,9,79,81,86] else if m = 511 then [2,3,4,6,9,82,86] else if m = 1023 then [2,3,4,6,9,87] else if m = 2047 then [2,3,4,6,9,87,88] else if m = 4095 then [4,6] else []
theorem ae4 : bT 0 = [2,3,4,6,9] := rfl
theorem adK : bT 1 = [2,3,4,6,9,78] := rfl
theorem afQ : bT 3 = [2,3,4,6,9,79] := rfl
theorem ab2 : bT 4 = [2,3,4,6,9,80] := rfl
theorem aed : bT 5 = [2,3,4,6,9,78,80] := rfl
theorem abJ : bT 7 = [2,3,4,6,9,79,80] := rfl
theorem VR : bT 12 = [2,3,4,6,9,81] := rfl
theorem Uj : bT 13 = [2,3,4,6,9,78,81] := rfl
theorem Xe : bT 15 = [2,3,4,6,9,79,81] := rfl
theorem ZU : bT 31 = [2,3,4,6,9,82] := rfl
theorem VP : bT 32 = [2,3,4,6,9,83] := rfl
theorem YV : bT 33 = [2,3,4,6,9,78,83] := rfl
theorem VB : bT 35 = [2,3,4,6,9,79,83] := rfl
theorem Zf : bT 36 = [2,3,4,6,9,80,83] := rfl
theorem Vp : bT 37 = [2,3,4,6,9,78,80,83] := rfl
theorem X0 : bT 39 = [2,3,4,6,9,79,80,83] := rfl
theorem Yu : bT 44 = [2,3,4,6,9,81,83] := rfl
theorem Y9 : bT 45 = [2,3,4,6,9,78,81,83] := rfl
theorem U4 : bT 47 = [2,3,4,6,9,79,81,83] := rfl
theorem Xa : bT 63 = [2,3,4,6,9,82,83] := rfl
theorem V4 : bT 96 = [2,3,4,6,9,84] := rfl
theorem WH : bT 97 = [2,3,4,6,9,78,84] := rfl
theorem ZC : bT 99 = [2,3,4,6,9,79,84] := rfl
theorem QU : bT 100 = [2,3,4,6,9,80,84] := rfl
theorem Rk : bT 101 = [2,3,4,6,9,78,80,84] := rfl
theorem Qo : bT 103 = [2,3,4,6,9,79,80,84] := rfl
theorem TD : bT 108 = [2,3,4,6,9,81,84] := rfl
theorem Ro : bT 109 = [2,3,4,6,9,78,81,84] := rfl
theorem Qp : bT 111 = [2,3,4,6,9,79,81,84] := rfl
theorem Q6 : bT 127 = [2,3,4,6,9,82,84] := rfl
theorem Sz : bT 128 = [2,3,4,6,9,85] := rfl
theorem QJ : bT 129 = [2,3,4,6,9,78,85] := rfl
theorem Rb : bT 131 = [2,3,4,6,9,79,85] := rfl
theorem Tt : bT 132 = [2,3,4,6,9,80,85] := rfl
theorem RH : bT 133 = [2,3,4,6,9,78,80,85] := rfl
theorem Sq : bT 135 = [2,3,4,6,9,79,80,85] := rfl
theorem Sl : bT 140 = [2,3,4,6,9,81,85] := rfl
theorem SF : bT 141 = [2,3,4,6,9,78,81,85] := rfl
theorem Sc : bT 143 = [2,3,4,6,9,79,81,85] := rfl
theorem Rl : bT 159 = [2,3,4,6,9,82,85] := rfl
theorem Qm : bT 160 = [2,3,4,6,9,83,85] := rfl
theorem SE : bT 161 = [2,3,4,6,9,78,83,85] := rfl
theorem Tx : bT 163 = [2,3,4,6,9,79,83,85] := rfl
theorem Sy : bT 164 = [2,3,4,6,9,80,83,85] := rfl
theorem Qv : bT 165 = [2,3,4,6,9,78,80,83,85] := rfl
theorem Sg : bT 167 = [2,3,4,6,9,79,80,83,85] := rfl
theorem Sw : bT 172 = [2,3,4,6,9,81,83,85] := rfl
theorem SB : bT 173 = [2,3,4,6,9,78,81,83,85] := rfl
theorem RB : bT 175 = [2,3,4,6,9,79,81,83,85] := rfl
theorem QL : bT 191 = [2,3,4,6,9,82,83,85] := rfl
theorem Rw : bT 224 = [2,3,4,6,9,84,85] := rfl
theorem Ti : bT 225 = [2,3,4,6,9,78,84,85] := rfl
theorem R8 : bT 227 = [2,3,4,6,9,79,84,85] := rfl
theorem QK : bT 228 = [2,3,4,6,9,80,84,85] := rfl
theorem Tp : bT 229 = [2,3,4,6,9,78,80,84,85] := rfl
theorem QB : bT 231 = [2,3,4,6,9,79,80,84,85] := rfl
theorem SS : bT 236 = [2,3,4,6,9,81,84,85] := rfl
theorem Tn : bT 237 = [2,3,4,6,9,78,81,84,85] := rfl
theorem Rz : bT 239 = [2,3,4,6,9,79,81,84,85] := rfl
theorem QV : bT 255 = [2,3,4,6,9,82,84,85] := rfl
theorem Qq : bT 480 = [2,3,4,6,9,86] := rfl
theorem Qh : bT 481 = [2,3,4,6,9,78,86] := rfl
theorem TK : bT 483 = [2,3,4,6,9,79,86] := rfl
theorem RZ : bT 484 = [2,3,4,6,9,80,86] := rfl
theorem RO : bT 485 = [2,3,4,6,9,78,80,86] := rfl
theorem SL : bT 487 = [2,3,4,6,9,79,80,86] := rfl
theorem TA : bT 492 = [2,3,4,6,9,81,86] := rfl
theorem TM : bT 493 = [2,3,4,6,9,78,81,86] := rfl
theorem QF : bT 495 = [2,3,4,6,9,79,81,86] := rfl
theorem Rc : bT 511 = [2,3,4,6,9,82,86] := rfl
theorem MH : bT 1023 = [2,3,4,6,9,87] := rfl
theorem Nn : bT 2047 = [2,3,4,6,9,87,88] := rfl
theorem NA : bT 4095 = [4,6] := rfl
def Ag (f : aj) (M : ah) : AS := ⟨[(2, .t (.one (.ptr 0 0))), (3, .t (.one (.ptr 1 0))), (4, .t (.one (.ptr 2 0))), (6, .t (.one (.ptr 3 0))), (9, (aU f M))], [(bE f M), (aQ f M), (bF f M), (bN f M), (bO f M)], 91, [], LP.top⟩
def FH (f : aj) (M : ah) : AS := ⟨[(2, .t (.one (.ptr 0 0))), (3, .t (.one (.ptr 1 0))), (4, .t (.one (.ptr 2 0))), (6, .t (.one (.ptr 3 0))), (9, (aU f M)), (78, .t (.one (.ptr 3 1)))], [(bE f M), (aQ f M), (bF f M), (bN f M), (bO f M)], 91, [], LP.top⟩
def HY (f : aj) (M : ah) : AS := ⟨[(2, .t (.one (.ptr 0 0))), (3, .t (.one (.ptr 1 0))), (4, .t (.one (.ptr 2 0))), (6, .t (.one (.ptr 3 0))), (9, (aU f M)), (79, (gV f M))], [(bE f M), (aQ f M), (bF f M), (bN f M), (bO f M)], 91, [], LP.top⟩
def G6 (f : aj) (M : ah) : AS := ⟨[(2, .t (.one (.ptr 0 0))), (3, .t (.one (.ptr 1 0))), (4, .t (.one (.ptr 2 0))), (6, .t (.one (.ptr 3 0))), (9, (aU f M)), (80, (gW f M))], [(bE f M), (aQ f M), (bF f M), (bN f M), (bO f M)], 91, [], LP.top⟩
def Hr (f : aj) (M : ah) : AS := ⟨[(2, .t (.one (.ptr 0 0))), (3, .t (.one (.ptr 1 0))), (4, .t (.one (.ptr 2 0))), (6, .t (.one (.ptr 3 0))), (9, (aU f M)), (78, .t (.one (.ptr 3 1))), (80, (gW f M))], [(bE f M), (aQ f M), (bF f M), (bN f M), (bO f M)], 91, [], LP.top⟩
def GN (f : aj) (M : ah) : AS := ⟨[(2, .t (.one (.ptr 0 0))), (3, .t (.one (.ptr 1 0))), (4, .t (.one (.ptr 2 0))), (6, .t (.one (.ptr 3 0))), (9, (aU f M)), (79, (gV f M)), (80, (gW f M))], [(bE f M), (aQ f M), (bF f M), (bN f M), (bO f M)], 91, [], LP.top⟩
def Eh (f : aj) (M : ah) : AS := ⟨[(2, .t (.one (.ptr 0 0))), (3, .t (.one (.ptr 1 0))), (4, .t (.one (.ptr 2 0))), (6, .t (.one (.ptr 3 0))), (9, (aU f M)), (81, .t (.one (.slc 8 0 1 7)))], [(bE f M), (aQ f M), (bF f M), (bN f M), (bO f M), none, none, none, (aQ f M)], 91, [], LP.top⟩
def D6 (f : aj) (M : ah) : AS := ⟨[(2, .t (.one (.ptr 0 0))), (3, .t (.one (.ptr 1 0))), (4, .t (.one (.ptr 2 0))), (6, .t (.one (.ptr 3 0))), (9, (aU f M)), (78, .t (.one (.ptr 3 1))), (81, .t (.one (.slc 8 0 1 7)))], [(bE f M), (aQ f M), (bF f M), (bN f M), (bO f M), none, none, none, (aQ f M)], 91, [], LP.top⟩
def Ei (f : aj) (M : ah) : AS := ⟨[(2, .t (.one (.ptr 0 0))), (3, .t (.one (.ptr 1 0))), (4, .t (.one (.ptr 2 0))), (6, .t (.one (.ptr 3 0))), (9, (aU f M)), (79, (gV f M)), (81, .t (.one (.slc 8 0 1 7)))], [(bE f M), (aQ f M), (bF f M), (bN f M), (bO f M), none, none, none, (aQ f M)], 91, [], LP.top⟩
def Bd (f : aj) (M : ah) : AS := ⟨[(2, .t (.one (.ptr 0 0))), (3, .t (.one (.ptr 1 0))), (4, .t (.one (.ptr 2 0))), (6, .t (.one (.ptr 3 0))), (9, (aU f M)), (82, (qp f M))], [(bE f M), (aQ f M), (bF f M), (nC f M), (mZ f M), none, none, none, (aQ f M)], 91, [], LP.top⟩
def Dt (f : aj) (M : ah) : AS := ⟨[(2, .t (.one (.ptr 0 0))), (3, .t (.one (.ptr 1 0))), (4, .t (.one (.ptr 2 0))), (6, .t (.one (.ptr 3 0))), (9, (aU f M)), (83, .t (.one (.ptr 0 1)))], [(bE f M), (aQ f M), (bF f M), (bN f M), (bO f M)], 91, [], LP.top⟩
def Dy (f : aj) (M : ah) : AS := ⟨[(2, .t (.one (.ptr 0 0))), (3, .t (.one (.ptr 1 0))), (4, .t (.one (.ptr 2 0))), (6, .t (.one (.ptr 3 0))), (9, (aU f M)), (78, .t (.one (.ptr 3 1))), (83, .t (.one (.ptr 0 1)))], [(bE f M), (aQ f M), (bF f M), (bN f M), (bO f M)], 91, [], LP.top⟩
def C8 (f : aj) (M : ah) : AS := ⟨[(2, .t (.one (.ptr 0 0))), (3, .t (.one (.ptr 1 0))), (4, .t (.one (.ptr 2 0))), (6, .t (.one (.ptr 3 0))), (9, (aU f M)), (79, (gV f M)), (83, .t (.one (.ptr 0 1)))], [(bE f M), (aQ f M), (bF f M), (bN f M), (bO f M)], 91, [], LP.top⟩
def Bo (f : aj) (M : ah) : AS := ⟨[(2, .t (.one (.ptr 0 0))), (3, .t (.one (.ptr 1 0))), (4, .t (.one (.ptr 2 0))), (6, .t (.one (.ptr 3 0))), (9, (aU f M)), (80, (gW f M)), (83, .t (.one (.ptr 0 1)))], [(bE f M), (aQ f M), (bF f M), (bN f M), (bO f M)], 91, [], LP.top⟩
def D5 (f : aj) (M : ah) : AS := ⟨[(2, .t (.one (.ptr 0 0))), (3, .t (.one (.ptr 1 0))), (4, .t (.one (.ptr 2 0))), (6, .t (.one (.ptr 3 0))), (9, (aU f M)), (78, .t (.one (.ptr 3 1))), (80, (gW f M)), (83, .t (.one (.ptr 0 1)))], [(bE f M), (aQ f M), (bF f M), (bN f M), (bO f M)], 91, [], LP.top⟩
def Dx (f : aj) (M : ah) : AS := ⟨[(2, .t (.one (.ptr 0 0))), (3, .t (.one (.ptr 1 0))), (4, .t (.one (.ptr 2 0))), (6, .t (.one (.ptr 3 0))), (9, (aU f M)), (79, (gV f M)), (80, (gW f M)), (83, .t (.one (.ptr 0 1)))], [(bE f M), (aQ f M), (bF f M), (bN f M), (bO f M)], 91, [], LP.top⟩
def CY (f : aj) (M : ah) : AS := ⟨[(2, .t (.one (.ptr 0 0))), (3, .t (.one (.ptr 1 0))), (4, .t (.one (.ptr 2 0))), (6, .t (.one (.ptr 3 0))), (9, (aU f M)), (81, .t (.one (.slc 8 0 1 7))), (83, .t (.one (.ptr 0 1)))], [(bE f M), (aQ f M), (bF f M), (bN f M), (bO f M), none, none, none, (aQ f M)], 91, [], LP.top⟩
def Bq (f : aj) (M : ah) : AS := ⟨[(2, .t (.one (.ptr 0 0))), (3, .t (.one (.ptr 1 0))), (4, .t (.one (.ptr 2 0))), (6, .t (.one (.ptr 3 0))), (9, (aU f M)), (78, .t (.one (.ptr 3 1))), (81, .t (.one (.slc 8 0 1 7))), (83, .t (.one (.ptr 0 1)))], [(bE f M), (aQ f M), (bF f M), (bN f M), (bO f M), none, none, none, (aQ f M)], 91, [], LP.top⟩
def Ce (f : aj) (M : ah) : AS := ⟨[(2, .t (.one (.ptr 0 0))), (3, .t (.one (.ptr 1 0))), (4, .t (.one (.ptr 2 0))), (6, .t (.one (.ptr 3 0))), (9, (aU f M)), (79, (gV f M)), (81, .t (.one (.slc 8 0 1 7))), (83, .t (.one (.ptr 0 1)))], [(bE f M), (aQ f M), (bF f M), (bN f M), (bO f M), none, none, none, (aQ f M)], 91, [], LP.top⟩
def Bw (f : aj) (M : ah) : AS := ⟨[(2, .t (.one (.ptr 0 0))), (3, .t (.one (.ptr 1 0))), (4, .t (.one (.ptr 2 0))), (6, .t (.one (.ptr 3 0))), (9, (aU f M)), (82, (qp f M)), (83, .t (.one (.ptr 0 1)))], [(bE f M), (aQ f M), (bF f M), (nC f M), (mZ f M), none, none, none, (aQ f M)], 91, [], LP.top⟩
def Cu (f : aj) (M : ah) : AS := ⟨[(2, .t (.one (.ptr 0 0))), (3, .t (.one (.ptr 1 0))), (4, .t (.one (.ptr 2 0))), (6, .t (.one (.ptr 3 0))), (9, (aU f M)), (84, (fK f M))], [(bE f M), (aQ f M), (bF f M), (bN f M), (bO f M)], 91, [], LP.top⟩
def Cw (f : aj) (M : ah) : AS := ⟨[(2, .t (.one (.ptr 0 0))), (3, .t (.one (.ptr 1 0))), (4, .t (.one (.ptr 2 0))), (6, .t (.one (.ptr 3 0))), (9, (aU f M)), (78, .t (.one (.ptr 3 1))), (84, (fK f M))], [(bE f M), (aQ f M), (bF f M), (bN f M), (bO f M)], 91, [], LP.top⟩
def Dk (f : aj) (M : ah) : AS := ⟨[(2, .t (.one (.ptr 0 0))), (3, .t (.one (.ptr 1 0))), (4, .t (.one (.ptr 2 0))), (6, .t (.one (.ptr 3 0))), (9, (aU f M)), (79, (gV f M)), (84, (fK f M))], [(bE f M), (aQ f M), (bF f M), (bN f M), (bO f M)], 91, [], LP.top⟩
def wP (f : aj) (M : ah) : AS := ⟨[(2, .t (.one (.ptr 0 0))), (3, .t (.one (.ptr 1 0))), (4, .t (.one (.ptr 2 0))), (6, .t (.one (.ptr 3 0))), (9, (aU f M)), (80, (gW f M)), (84, (fK f M))], [(bE f M), (aQ f M), (bF f M), (bN f M), (bO f M)], 91, [], LP.top⟩
def yt (f : aj) (M : ah) : AS := ⟨[(2, .t (.one (.ptr 0 0))), (3, .t (.one (.ptr 1 0))), (4, .t (.one (.ptr 2 0))), (6, .t (.one (.ptr 3 0))), (9, (aU f M)), (78, .t (.one (.ptr 3 1))), (80, (gW f M)), (84, (fK f M))], [(bE f M), (aQ f M), (bF f M), (bN f M), (bO f M)], 91, [], LP.top⟩
def wI (f : aj) (M : ah) : AS := ⟨[(2, .t (.one (.ptr 0 0))), (3, .t (.one (.ptr 1 0))), (4, .t (.one (.ptr 2 0))), (6, .t (.one (.ptr 3 0))), (9, (aU f M)), (79, (gV f M)), (80, (gW f M)), (84, (fK f M))], [(bE f M), (aQ f M), (bF f M), (bN f M), (bO f M)], 91, [], LP.top⟩
def yh (f : aj) (M : ah) : AS := ⟨[(2, .t (.one (.ptr 0 0))), (3, .t (.one (.ptr 1 0))), (4, .t (.one (.ptr 2 0))), (6, .t (.one (.ptr 3 0))), (9, (aU f M)), (81, .t (.one (.slc 8 0 1 7))), (84, (fK f M))], [(bE f M), (aQ f M), (bF f M), (bN f M), (bO f M), none, none, none, (aQ f M)], 91, [], LP.top⟩
def xJ (f : aj) (M : ah) : AS := ⟨[(2, .t (.one (.ptr 0 0))), (3, .t (.one (.ptr 1 0))), (4, .t (.one (.ptr 2 0))), (6, .t (.one (.ptr 3 0))), (9, (aU f M)), (78, .t (.one (.ptr 3 1))), (81, .t (.one (.slc 8 0 1 7))), (84, (fK f M))], [(bE f M), (aQ f M), (bF f M), (bN f M), (bO f M), none, none, none, (aQ f M)], 91, [], LP.top⟩
def wR (f : aj) (M : ah) : AS := ⟨[(2, .t (.one (.ptr 0 0))), (3, .t (.one (.ptr 1 0))), (4, .t (.one (.ptr 2 0))), (6, .t (.one (.ptr 3 0))), (9, (aU f M)), (79, (gV f M)), (81, .t (.one (.slc 8 0 1 7))), (84, (fK f M))], [(bE f M), (aQ f M), (bF f M), (bN f M), (bO f M), none, none, none, (aQ f M)], 91, [], LP.top⟩
def yG (f : aj) (M : ah) : AS := ⟨[(2, .t (.one (.ptr 0 0))), (3, .t (.one (.ptr 1 0))), (4, .t (.one (.ptr 2 0))), (6, .t (.one (.ptr 3 0))), (9, (aU f M)), (82, (qp f M)), (84, (fK f M))], [(bE f M), (aQ f M), (bF f M), (nC f M), (mZ f M), none, none, none, (aQ f M)], 91, [], LP.top⟩
def yI (f : aj) (M : ah) : AS := ⟨[(2, .t (.one (.ptr 0 0))), (3, .t (.one (.ptr 1 0))), (4, .t (.one (.ptr 2 0))), (6, .t (.one (.ptr 3 0))), (9, (aU f M)), (85, (aU f M))], [(bE f M), (aQ f M), (bF f M), (bN f M), (bO f M)], 91, [], LP.top⟩
def wZ (f : aj) (M : ah) : AS := ⟨[(2, .t (.one (.ptr 0 0))), (3, .t (.one (.ptr 1 0))), (4, .t (.one (.ptr 2 0))), (6, .t (.one (.ptr 3 0))), (9, (aU f M)), (78, .t (.one (.ptr 3 1))), (85, (aU f M))], [(bE f M), (aQ f M), (bF f M), (bN f M), (bO f M)], 91, [], LP.top⟩
def wz (f : aj) (M : ah) : AS := ⟨[(2, .t (.one (.ptr 0 0))), (3, .t (.one (.ptr 1 0))), (4, .t (.one (.ptr 2 0))), (6, .t (.one (.ptr 3 0))), (9, (aU f M)), (79, (gV f M)), (85, (aU f M))], [(bE f M), (aQ f M), (bF f M), (bN f M), (bO f M)], 91, [], LP.top⟩
def xH (f : aj) (M : ah) : AS := ⟨[(2, .t (.one (.ptr 0 0))), (3, .t (.one (.ptr 1 0))), (4, .t (.one (.ptr 2 0))), (6, .t (.one (.ptr 3 0))), (9, (aU f M)), (80, (gW f M)), (85, (aU f M))], [(bE f M), (aQ f M), (bF f M), (bN f M), (bO f M)], 91, [], LP.top⟩
def w9 (f : aj) (M : ah) : AS := ⟨[(2, .t (.one (.ptr 0 0))), (3, .t (.one (.ptr 1 0))), (4, .t (.one (.ptr 2 0))), (6, .t (.one (.ptr 3 0))), (9, (aU f M)), (78, .t (.one (.ptr 3 1))), (80, (gW f M)), (85, (aU f M))], [(bE f M), (aQ f M), (bF f M), (bN f M), (bO f M)], 91, [], LP.top⟩
def x9 (f : aj) (M : ah) : AS := ⟨[(2, .t (.one (.ptr 0 0))), (3, .t (.one (.ptr 1 0))), (4, .t (.one (.ptr 2 0))), (6, .t (.one (.ptr 3 0))), (9, (aU f M)), (79, (gV f M)), (80, (gW f M)), (85, (aU f M))], [(bE f M), (aQ f M), (bF f M), (bN f M), (bO f M)], 91, [], LP.top⟩
def xP (f : aj) (M : ah) : AS := ⟨[(2, .t (.one (.ptr 0 0))), (3, .t (.one (.ptr 1 0))), (4, .t (.one (.ptr 2 0))), (6, .t (.one (.ptr 3 0))), (9, (aU f M)), (81, .t (.one (.slc 8 0 1 7))), (85, (aU f M))], [(bE f M), (aQ f M), (bF f M), (bN f M), (bO f M), none, none, none, (aQ f M)], 91, [], LP.top⟩
def xq (f : aj) (M : ah) : AS := ⟨[(2, .t (.one (.ptr 0 0))), (3, .t (.one (.ptr 1 0))), (4, .t (.one (.ptr 2 0))), (6, .t (.one (.ptr 3 0))), (9, (aU f M)), (78, .t (.one (.ptr 3 1))), (81, .t (.one (.slc 8 0 1 7))), (85, (aU f M))], [(bE f M), (aQ f M), (bF f M), (bN f M), (bO f M), none, none, none, (aQ f M)], 91, [], LP.top⟩
def yH (f : aj) (M : ah) : AS := ⟨[(2, .t (.one (.ptr 0 0))), (3, .t (.one (.ptr 1 0))), (4, .t (.one (.ptr 2 0))), (6, .t (.one (.ptr 3 0))), (9, (aU f M)), (79, (gV f M)), (81, .t (.one (.slc 8 0 1 7))), (85, (aU f M))], [(bE f M), (aQ f M), (bF f M), (bN f M), (bO f M), none, none, none, (aQ f M)], 91, [], LP.top⟩
def wJ (f : aj) (M : ah) : AS := ⟨[(2, .t (.one (.ptr 0 0))), (3, .t (.one (.ptr 1 0))), (4, .t (.one (.ptr 2 0))), (6, .t (.one (.ptr 3 0))), (9, (aU f M)), (82, (qp f M)), (85, (aU f M))], [(bE f M), (aQ f M), (bF f M), (nC f M), (mZ f M), none, none, none, (aQ f M)], 91, [], LP.top⟩
def yM (f : aj) (M : ah) : AS := ⟨[(2, .t (.one (.ptr 0 0))), (3, .t (.one (.ptr 1 0))), (4, .t (.one (.ptr 2 0))), (6, .t (.one (.ptr 3 0))), (9, (aU f M)), (83, .t (.one (.ptr 0 1))), (85, (aU f M))], [(bE f M), (aQ f M), (bF f M), (bN f M), (bO f M)], 91, [], LP.top⟩
def wV (f : aj) (M : ah) : AS := ⟨[(2, .t (.one (.ptr 0 0))), (3, .t (.one (.ptr 1 0))), (4, .t (.one (.ptr 2 0))), (6, .t (.one (.ptr 3 0))), (9, (aU f M)), (78, .t (.one (.ptr 3 1))), (83, .t (.one (.ptr 0 1))), (85, (aU f M))], [(bE f M), (aQ f M), (bF f M), (bN f M), (bO f M)], 91, [], LP.top⟩
def yC (f : aj) (M : ah) : AS := ⟨[(2, .t (.one (.ptr 0 0))), (3, .t (.one (.ptr 1 0))), (4, .t (.one (.ptr 2 0))), (6, .t (.one (.ptr 3 0))), (9, (aU f M)), (79, (gV f M)), (83, .t (.one (.ptr 0 1))), (85, (aU f M))], [(bE f M), (aQ f M), (bF f M), (bN f M), (bO f M)], 91, [], LP.top⟩
def xG (f : aj) (M : ah) : AS := ⟨[(2, .t (.one (.ptr 0 0))), (3, .t (.one (.ptr 1 0))), (4, .t (.one (.ptr 2 0))), (6, .t (.one (.ptr 3 0))), (9, (aU f M)), (80, (gW f M)), (83, .t (.one (.ptr 0 1))), (85, (aU f M))], [(bE f M), (aQ f M), (bF f M), (bN f M), (bO f M)], 91, [], LP.top⟩
def yg (f : aj) (M : ah) : AS := ⟨[(2, .t (.one (.ptr 0 0))), (3, .t (.one (.ptr 1 0))), (4, .t (.one (.ptr 2 0))), (6, .t (.one (.ptr 3 0))), (9, (aU f M)), (78, .t (.one (.ptr 3 1))), (80, (gW f M)), (83, .t (.one (.ptr 0 1))), (85, (aU f M))], [(bE f M), (aQ f M), (bF f M), (bN f M), (bO f M)], 91, [], LP.top⟩
def xI (f : aj) (M : ah) : AS := ⟨[(2, .t (.one (.ptr 0 0))), (3, .t (.one (.ptr 1 0))), (4, .t (.one (.ptr 2 0))), (6, .t (.one (.ptr 3 0))), (9, (aU f M)), (79, (gV f M)), (80, (gW f M)), (83, .t (.one (.ptr 0 1))), (85, (aU f M))], [(bE f M), (aQ f M), (bF f M), (bN f M), (bO f M)], 91, [], LP.top⟩
def yc (f : aj) (M : ah) : AS := ⟨[(2, .t (.one (.ptr 0 0))), (3, .t (.one (.ptr 1 0))), (4, .t (.one (.ptr 2 0))), (6, .t (.one (.ptr 3 0))), (9, (aU f M)), (81, .t (.one (.slc 8 0 1 7))), (83, .t (.one (.ptr 0 1))), (85, (aU f M))], [(bE f M), (aQ f M), (bF f M), (bN f M), (bO f M), none, none, none, (aQ f M)], 91, [], LP.top⟩
def xU (f : aj) (M : ah) : AS := ⟨[(2, .t (.one (.ptr 0 0))), (3, .t (.one (.ptr 1 0))), (4, .t (.one (.ptr 2 0))), (6, .t (.one (.ptr 3 0))), (9, (aU f M)), (78, .t (.one (.ptr 3 1))), (81, .t (.one (.slc 8 0 1 7))), (83, .t (.one (.ptr 0 1))), (85, (aU f M))], [(bE f M), (aQ f M), (bF f M), (bN f M), (bO f M), none, none, none, (aQ f M)], 91, [], LP.top⟩
def vX (f : aj) (M : ah) : AS := ⟨[(2, .t (.one (.ptr 0 0))), (3, .t (.one (.ptr 1 0))), (4, .t (.one (.ptr 2 0))), (6, .t (.one (.ptr 3 0))), (9, (aU f M)), (79, (gV f M)), (81, .t (.one (.slc 8 0 1 7))), (83, .t (.one (.ptr 0 1))), (85, (aU f M))], [(bE f M), (aQ f M), (bF f M), (bN f M), (bO f M), none, none, none, (aQ f M)], 91, [], LP.top⟩
def wK (f : aj) (M : ah) : AS := ⟨[(2, .t (.one (.ptr 0 0))), (3, .t (.one (.ptr 1 0))), (4, .t (.one (.ptr 2 0))), (6, .t (.one (.ptr 3 0))), (9, (aU f M)), (82, (qp f M)), (83, .t (.one (.ptr 0 1))), (85, (aU f M))], [(bE f M), (aQ f M), (bF f M), (nC f M), (mZ f M), none, none, none, (aQ f M)], 91, [], LP.top⟩
def wM (f : aj) (M : ah) : AS := ⟨[(2, .t (.one (.ptr 0 0))), (3, .t (.one (.ptr 1 0))), (4, .t (.one (.ptr 2 0))), (6, .t (.one (.ptr 3 0))), (9, (aU f M)), (84, (fK f M)), (85, (aU f M))], [(bE f M), (aQ f M), (bF f M), (bN f M), (bO f M)], 91, [], LP.top⟩
def yP (f : aj) (M : ah) : AS := ⟨[(2, .t (.one (.ptr 0 0))), (3, .t (.one (.ptr 1 0))), (4, .t (.one (.ptr 2 0))), (6, .t (.one (.ptr 3 0))), (9, (aU f M)), (78, .t (.one (.ptr 3 1))), (84, (fK f M)), (85, (aU f M))], [(bE f M), (aQ f M), (bF f M), (bN f M), (bO f M)], 91, [], LP.top⟩
def vW (f : aj) (M : ah) : AS := ⟨[(2, .t (.one (.ptr 0 0))), (3, .t (.one (.ptr 1 0))), (4, .t (.one (.ptr 2 0))), (6, .t (.one (.ptr 3 0))), (9, (aU f M)), (79, (gV f M)), (84, (fK f M)), (85, (aU f M))], [(bE f M), (aQ f M), (bF f M), (bN f M), (bO f M)], 91, [], LP.top⟩
def xK (f : aj) (M : ah) : AS := ⟨[(2, .t (.one (.ptr 0 0))), (3, .t (.one (.ptr 1 0))), (4, .t (.one (.ptr 2 0))), (6, .t (.one (.ptr 3 0))), (9, (aU f M)), (80, (gW f M)), (84, (fK f M)), (85, (aU f M))], [(bE f M), (aQ f M), (bF f M), (bN f M), (bO f M)], 91, [], LP.top⟩
def yO (f : aj) (M : ah) : AS := ⟨[(2, .t (.one (.ptr 0 0))), (3, .t (.one (.ptr 1 0))), (4, .t (.one (.ptr 2 0))), (6, .t (.one (.ptr 3 0))), (9, (aU f M)), (78, .t (.one (.ptr 3 1))), (80, (gW f M)), (84, (fK f M)), (85, (aU f M))], [(bE f M), (aQ f M), (bF f M), (bN f M), (bO f M)], 91, [], LP.top⟩
def wB (f : aj) (M : ah) : AS := ⟨[(2, .t (.one (.ptr 0 0))), (3, .t (.one (.ptr 1 0))), (4, .t (.one (.ptr 2 0))), (6, .t (.one (.ptr 3 0))), (9, (aU f M)), (79, (gV f M)), (80, (gW f M)), (84, (fK f M)), (85, (aU f M))], [(bE f M), (aQ f M), (bF f M), (bN f M), (bO f M)], 91, [], LP.top⟩
def yF (f : aj) (M : ah) : AS := ⟨[(2, .t (.one (.ptr 0 0))), (3, .t (.one (.ptr 1 0))), (4, .t (.one (.ptr 2 0))), (6, .t (.one (.ptr 3 0))), (9, (aU f M)), (81, .t (.one (.slc 8 0 1 7))), (84, (fK f M)), (85, (aU f M))], [(bE f M), (aQ f M), (bF f M), (bN f M), (bO f M), none, none, none, (aQ f M)], 91, [], LP.top⟩
def xg (f : aj) (M : ah) : AS := ⟨[(2, .t (.one (.ptr 0 0))), (3, .t (.one (.ptr 1 0))), (4, .t (.one (.ptr 2 0))), (6, .t (.one (.ptr 3 0))), (9, (aU f M)), (78, .t (.one (.ptr 3 1))), (81, .t (.one (.slc 8 0 1 7))), (84, (fK f M)), (85, (aU f M))], [(bE f M), (aQ f M), (bF f M), (bN f M), (bO f M), none, none, none, (aQ f M)], 91, [], LP.top⟩
def vZ (f : aj) (M : ah) : AS := ⟨[(2, .t (.one (.ptr 0 0))), (3, .t (.one (.ptr 1 0))), (4, .t (.one (.ptr 2 0))), (6, .t (.one (.ptr 3 0))), (9, (aU f M)), (79, (gV f M)), (81, .t (.one (.slc 8 0 1 7))), (84, (fK f M)), (85, (aU f M))], [(bE f M), (aQ f M), (bF f M), (bN f M), (bO f M), none, none, none, (aQ f M)], 91, [], LP.top⟩
def vQ (f : aj) (M : ah) : AS := ⟨[(2, .t (.one (.ptr 0 0))), (3, .t (.one (.ptr 1 0))), (4, .t (.one (.ptr 2 0))), (6, .t (.one (.ptr 3 0))), (9, (aU f M)), (82, (qp f M)), (84, (fK f M)), (85, (aU f M))], [(bE f M), (aQ f M), (bF f M), (nC f M), (mZ f M), none, none, none, (aQ f M)], 91, [], LP.top⟩
def xZ (f : aj) (M : ah) : AS := ⟨[(2, .t (.one (.ptr 0 0))), (3, .t (.one (.ptr 1 0))), (4, .t (.one (.ptr 2 0))), (6, .t (.one (.ptr 3 0))), (9, (aU f M)), (86, (jN f M))], [(bE f M), (aQ f M), (bF f M), (bN f M), (bO f M)], 91, [], LP.top⟩
def wO (f : aj) (M : ah) : AS := ⟨[(2, .t (.one (.ptr 0 0))), (3, .t (.one (.ptr 1 0))), (4, .t (.one (.ptr 2 0))), (6, .t (.one (.ptr 3 0))), (9, (aU f M)), (78, .t (.one (.ptr 3 1))), (86, (jN f M))], [(bE f M), (aQ f M), (bF f M), (bN f M), (bO f M)], 91, [], LP.top⟩
def vT (f : aj) (M : ah) : AS := ⟨[(2, .t (.one (.ptr 0 0))), (3, .t (.one (.ptr 1 0))), (4, .t (.one (.ptr 2 0))), (6, .t (.one (.ptr 3 0))), (9, (aU f M)), (79, (gV f M)), (86, (jN f M))], [(bE f M), (aQ f M), (bF f M), (bN f M), (bO f M)], 91, [], LP.top⟩
def vU (f : aj) (M : ah) : AS := ⟨[(2, .t (.one (.ptr 0 0))), (3, .t (.one (.ptr 1 0))), (4, .t (.one (.ptr 2 0))), (6, .t (.one (.ptr 3 0))), (9, (aU f M)), (80, (gW f M)), (86, (jN f M))], [(bE f M), (aQ f M), (bF f M), (bN f M), (bO f M)], 91, [], LP.top⟩
def wY (f : aj) (M : ah) : AS := ⟨[(2, .t (.one (.ptr 0 0))), (3, .t (.one (.ptr 1 0))), (4, .t (.one (.ptr 2 0))), (6, .t (.one (.ptr 3 0))), (9, (aU f M)), (78, .t (.one (.ptr 3 1))), (80, (gW f M)), (86, (jN f M))], [(bE f M), (aQ f M), (bF f M), (bN f M), (bO f M)], 91, [], LP.top⟩
def wo (f : aj) (M : ah) : AS := ⟨[(2, .t (.one (.ptr 0 0))), (3, .t (.one (.ptr 1 0))), (4, .t (.one (.ptr 2 0))), (6, .t (.one (.ptr 3 0))), (9, (aU f M)), (79, (gV f M)), (80, (gW f M)), (86, (jN f M))], [(bE f M), (aQ f M), (bF f M), (bN f M), (bO f M)], 91, [], LP.top⟩
def yw (f : aj) (M : ah) : AS := ⟨[(2, .t (.one (.ptr 0 0))), (3, .t (.one (.ptr 1 0))), (4, .t (.one (.ptr 2 0))), (6, .t (.one (.ptr 3 0))), (9, (aU f M)), (81, .t (.one (.slc 8 0 1 7))), (86, (jN f M))], [(bE f M), (aQ f M), (bF f M), (bN f M), (bO f M), none, none, none, (aQ f M)], 91, [], LP.top⟩
def xO (f : aj) (M : ah) : AS := ⟨[(2, .t (.one (.ptr 0 0))), (3, .t (.one (.ptr 1 0))), (4, .t (.one (.ptr 2 0))), (6, .t (.one (.ptr 3 0))), (9, (aU f M)), (78, .t (.one (.ptr 3 1))), (81, .t (.one (.slc 8 0 1 7))), (86, (jN f M))], [(bE f M), (aQ f M), (bF f M), (bN f M), (bO f M), none, none, none, (aQ f M)], 91, [], LP.top⟩
def wS (f : aj) (M : ah) : AS := ⟨[(2, .t (.one (.ptr 0 0))), (3, .t (.one (.ptr 1 0))), (4, .t (.one (.ptr 2 0))), (6, .t (.one (.ptr 3 0))), (9, (aU f M)), (79, (gV f M)), (81, .t (.one (.slc 8 0 1 7))), (86, (jN f M))], [(bE f M), (aQ f M), (bF f M), (bN f M), (bO f M), none, none, none, (aQ f M)], 91, [], LP.top⟩
def vV (f : aj) (M : ah) : AS := ⟨[(2, .t (.one (.ptr 0 0))), (3, .t (.one (.ptr 1 0))), (4, .t (.one (.ptr 2 0))), (6, .t (.one (.ptr 3 0))), (9, (aU f M)), (82, (qp f M)), (86, (jN f M))], [(bE f M), (aQ f M), (bF f M), (nC f M), (mZ f M), none, none, none, (aQ f M)], 91, [], LP.top⟩
def su (f : aj) (M : ah) : AS := ⟨[(2, .t (.one (.ptr 0 0))), (3, .t (.one (.ptr 1 0))), (4, .t (.one (.ptr 2 0))), (6, .t (.one (.ptr 3 0))), (9, (aU f M)), (87, .t (.one (.slc 4 0 (f.n + 1) 7)))], [(bE f M), (aQ f M), (bF f M), (nC f M), some (iB (K4 f M)), none, none, none, (aQ f M)], 91, [], LP.top⟩
def sD (f : aj) (M : ah) : AS := ⟨[(2, .t (.one (.ptr 0 0))), (3, .t (.one (.ptr 1 0))), (4, .t (.one (.ptr 2 0))), (6, .t (.one (.ptr 3 0))), (9, (aU f M)), (87, .t (.one (.slc 4 0 (f.n + 1) 7))), (88, .t (.one (.ptr 3 1)))], [(bE f M), (aQ f M), (bF f M), (nC f M), some (iB (K4 f M)), none, none, none, (aQ f M)], 91, [], LP.top⟩
def sH (f : aj) (M : ah) : AS := ⟨[(4, .t (.one (.ptr 2 0))), (6, .t (.one (.ptr 3 0)))], [(bE f M), (aQ f M), (bF f M), some [.iv (.lst 13 f.k (iR f.S)), .slc 4 0 (f.n + 1) 7], some (iB (K4 f M)), none, none, none, (aQ f M)], 91, [], LP.top⟩
def bS (f : aj) (M : ah) (m : Nat) : AS := if m = 0 then Ag f M else if m = 1 then FH f M else if m = 3 then HY f M else if m = 4 then G6 f M else if m = 5 then Hr f M else if m = 7 then GN f M else if m = 12 then Eh f M else if m = 13 then D6 f M else if m = 15 then Ei f M else if m = 31 then Bd f M else if m = 32 then Dt f M else if m = 33 then Dy f M else if m = 35 then C8 f M else if m = 36 then Bo f M else if m = 37 then D5 f M else if m = 39 then Dx f M else if m = 44 then CY f M else if m = 45 then Bq f M else if m = 47 then Ce f M else if m = 63 then Bw f M else if m = 96 then Cu f M else if m = 97 then Cw f M else if m = 99 then Dk f M else if m = 100 then wP f M else if m = 101 then yt f M else if m = 103 then wI f M else if m = 108 then yh f M else if m = 109 then xJ f M else if m = 111 then wR f M else if m = 127 then yG f M else if m = 128 then yI f M else if m = 129 then wZ f M else if m = 131 then wz f M else if m = 132 then xH f M else if m = 133 then w9 f M else if m = 135 then x9 f M else if m = 140 then xP f M else if m = 141 then xq f M else if m = 143 then yH f M else if m = 159 then wJ f M else if m = 160 then yM f M else if m = 161 then wV f M else if m = 163 then yC f M else if m = 164 then xG f M else if m = 165 then yg f M else if m = 167 then xI f M else if m = 172 then yc f M else if m = 173 then xU f M else if m = 175 then vX f M else if m = 191 then wK f M else if m = 224 then wM f M else if m = 225 then yP f M else if m = 227 then vW f M else if m = 228 then xK f M else if m = 229 then yO f M else if m = 231 then wB f M else if m = 236 then yF f M else if m = 237 then xg f M else if m = 239 then vZ f M else if m = 255 then vQ f M else if m = 480 then xZ f M else if m = 481 then wO f M else if m = 483 then vT f M else if m = 484 then vU f M else if m = 485 then wY f M else if m = 487 then wo f M else if m = 492 then yw f M else if m = 493 then xO f M else if m = 495 then wS f M else if m = 511 then vV f M else if m = 1023 then su f M else if m = 2047 then sD f M else if m = 4095 then sH f M else Ag f M
theorem aaZ (f : aj) (M : ah) : bS f M 0 = Ag f M := rfl
theorem ab4 (f : aj) (M : ah) : bS f M 1 = FH f M := rfl
theorem aeS (f : aj) (M : ah) : bS f M 3 = HY f M := rfl
theorem abm (f : aj) (M : ah) : bS f M 4 = G6 f M := rfl
theorem ad8 (f : aj) (M : ah) : bS f M 5 = Hr f M := rfl
theorem abH (f : aj) (M : ah) : bS f M 7 = GN f M := rfl
theorem Yn (f : aj) (M : ah) : bS f M 12 = Eh f M := rfl
theorem Vy (f : aj) (M : ah) : bS f M 13 = D6 f M := rfl
theorem V9 (f : aj) (M : ah) : bS f M 15 = Ei f M := rfl
theorem VZ (f : aj) (M : ah) : bS f M 31 = Bd f M := rfl
theorem aal (f : aj) (M : ah) : bS f M 32 = Dt f M := rfl
theorem WT (f : aj) (M : ah) : bS f M 33 = Dy f M := rfl
theorem U7 (f : aj) (M : ah) : bS f M 35 = C8 f M := rfl
theorem YG (f : aj) (M : ah) : bS f M 36 = Bo f M := rfl
theorem Vw (f : aj) (M : ah) : bS f M 37 = D5 f M := rfl
theorem Yy (f : aj) (M : ah) : bS f M 39 = Dx f M := rfl
theorem UY (f : aj) (M : ah) : bS f M 44 = CY f M := rfl
theorem Zo (f : aj) (M : ah) : bS f M 45 = Bq f M := rfl
theorem Zh (f : aj) (M : ah) : bS f M 47 = Ce f M := rfl
theorem Zg (f : aj) (M : ah) : bS f M 63 = Bw f M := rfl
theorem Ur (f : aj) (M : ah) : bS f M 96 = Cu f M := rfl
theorem Y5 (f : aj) (M : ah) : bS f M 97 = Cw f M := rfl
theorem WQ (f : aj) (M : ah) : bS f M 99 = Dk f M := rfl
theorem RG (f : aj) (M : ah) : bS f M 100 = wP f M := rfl
theorem Tf (f : aj) (M : ah) : bS f M 101 = yt f M := rfl
theorem SI (f : aj) (M : ah) : bS f M 103 = wI f M := rfl
theorem Ql (f : aj) (M : ah) : bS f M 108 = yh f M := rfl
theorem TI (f : aj) (M : ah) : bS f M 109 = xJ f M := rfl
theorem SQ (f : aj) (M : ah) : bS f M 111 = wR f M := rfl
theorem Rq (f : aj) (M : ah) : bS f M 127 = yG f M := rfl
theorem TP (f : aj) (M : ah) : bS f M 128 = yI f M := rfl
theorem R7 (f : aj) (M : ah) : bS f M 129 = wZ f M := rfl
theorem Te (f : aj) (M : ah) : bS f M 131 = wz f M := rfl
theorem QW (f : aj) (M : ah) : bS f M 132 = xH f M := rfl
theorem Q5 (f : aj) (M : ah) : bS f M 133 = w9 f M := rfl
theorem RJ (f : aj) (M : ah) : bS f M 135 = x9 f M := rfl
theorem Qu (f : aj) (M : ah) : bS f M 140 = xP f M := rfl
theorem SN (f : aj) (M : ah) : bS f M 141 = xq f M := rfl
theorem Sd (f : aj) (M : ah) : bS f M 143 = yH f M := rfl
theorem RD (f : aj) (M : ah) : bS f M 159 = wJ f M := rfl
theorem QD (f : aj) (M : ah) : bS f M 160 = yM f M := rfl
theorem QO (f : aj) (M : ah) : bS f M 161 = wV f M := rfl
theorem RV (f : aj) (M : ah) : bS f M 163 = yC f M := rfl
theorem Qx (f : aj) (M : ah) : bS f M 164 = xG f M := rfl
theorem Ra (f : aj) (M : ah) : bS f M 165 = yg f M := rfl
theorem Qs (f : aj) (M : ah) : bS f M 167 = xI f M := rfl
theorem Rv (f : aj) (M : ah) : bS f M 172 = yc f M := rfl
theorem SY (f : aj) (M : ah) : bS f M 173 = xU f M := rfl
theorem Sn (f : aj) (M : ah) : bS f M 175 = vX f M := rfl
theorem TQ (f : aj) (M : ah) : bS f M 191 = wK f M := rfl
theorem RL (f : aj) (M : ah) : bS f M 224 = wM f M := rfl
theorem Tz (f : aj) (M : ah) : bS f M 225 = yP f M := rfl
theorem TB (f : aj) (M : ah) : bS f M 227 = vW f M := rfl
theorem QY (f : aj) (M : ah) : bS f M 228 = xK f M := rfl
theorem QC (f : aj) (M : ah) : bS f M 229 = yO f M := rfl
theorem RX (f : aj) (M : ah) : bS f M 231 = wB f M := rfl
theorem Rp (f : aj) (M : ah) : bS f M 236 = yF f M := rfl
theorem Rj (f : aj) (M : ah) : bS f M 237 = xg f M := rfl
theorem Q0 (f : aj) (M : ah) : bS f M 239 = vZ f M := rfl
theorem Tv (f : aj) (M : ah) : bS f M 255 = vQ f M := rfl
theorem QE (f : aj) (M : ah) : bS f M 480 = xZ f M := rfl
theorem QX (f : aj) (M : ah) : bS f M 481 = wO f M := rfl
theorem Tj (f : aj) (M : ah) : bS f M 483 = vT f M := rfl
theorem QM (f : aj) (M : ah) : bS f M 484 = vU f M := rfl
theorem Sk (f : aj) (M : ah) : bS f M 485 = wY f M := rfl
theorem Sr (f : aj) (M : ah) : bS f M 487 = wo f M := rfl
theorem TL (f : aj) (M : ah) : bS f M 492 = yw f M := rfl
theorem R6 (f : aj) (M : ah) : bS f M 493 = xO f M := rfl
theorem RP (f : aj) (M : ah) : bS f M 495 = wS f M := rfl
theorem Rh (f : aj) (M : ah) : bS f M 511 = vV f M := rfl
theorem K9 (f : aj) (M : ah) : bS f M 1023 = su f M := rfl
theorem Nb (f : aj) (M : ah) : bS f M 2047 = sD f M := rfl
theorem Lx (f : aj) (M : ah) : bS f M 4095 = sH f M := rfl
attribute [go_sem] aU bE aQ bF bN bO gV gW qp nC mZ fK jN ae4 Ag aaZ adK FH ab4 afQ HY aeS ab2 G6 abm aed Hr ad8 abJ GN abH VR Eh Yn Uj D6 Vy Xe Ei V9 ZU Bd VZ VP Dt aal YV Dy WT VB C8 U7 Zf Bo YG Vp D5 Vw X0 Dx Yy Yu CY UY Y9 Bq Zo U4 Ce Zh Xa Bw Zg V4 Cu Ur WH Cw Y5 ZC Dk WQ QU wP RG Rk yt Tf Qo wI SI TD yh Ql Ro xJ TI Qp wR SQ Q6 yG Rq Sz yI TP QJ wZ R7 Rb wz Te Tt xH QW RH w9 Q5 Sq x9 RJ Sl xP Qu SF xq SN Sc yH Sd Rl wJ RD Qm yM QD SE wV QO Tx yC RV Sy xG Qx Qv yg Ra Sg xI Qs Sw yc Rv SB xU SY RB vX Sn QL wK TQ Rw wM RL Ti yP Tz R8 vW TB QK xK QY Tp yO QC QB wB RX SS yF Rp Tn xg Rj Rz vZ Q0 QV vQ Tv Qq xZ QE Qh wO QX TK vT Tj RZ vU QM RO wY Sk SL wo Sr TA yw TL TM xO R6 QF wS RP Rc vV Rh MH su K9 Nn sD Nb NA sH Lx
end Go.Proofs.YtcfechepbamhkaaGreat
namespace Go.Proofs.YtcfechepbamhkaaGreat
open Go.RowKit Go.Sea
open Nat renaming reduceAdd -> xA, reduceLT -> xL, reduceLeDiff -> xD, reduceEqDiff -> xE, reduceMul -> xM, reduceSub -> xS, reduceBEq -> xB
def knB (n : Nat) (N : Nat -> ah) (ch x : Int) : Bool := (List.range n).any fun i => decide ((N i).nu = x) && kN (N i) ch
end Go.Proofs.YtcfechepbamhkaaGreat
namespace Go.Proofs.YtcfechepbamhkaaGreat
open Go.RowKit Go.Sea Go.Lib
theorem lu : Tryz.prog.underlying 23 = some (.slice 28) := by kernel_rfl
theorem afZ : (Tryz.prog.info? 28).map (fun i => (i.size, i.bytes, i.zero.map (·.cells.size))) = some (7, 72, some 7) := by kernel_rfl
set_option maxHeartbeats 4000000 in
set_option maxRecDepth 100000 in
set_option maxHeartbeats 2000000 in
theorem MP (cap : Nat) (w : World) : Calls Tryz.prog 43 #[.slice none 0 cap] w fun e w' => e = .returned (.slice none 0 0) /\ w' = w := by
  have q : (binOp .eql 23 (.slice none 0 cap) (.slice none 0 0)).run Tryz.prog w = .ok (.bool true) w := run_eql_slice_nil w 23 28 none 0 cap lu
  go_enter Tryz.func43, Tryz.ntmps43
  go_wp2
  go_ret
  exact ⟨rfl, rfl⟩
set_option maxHeartbeats 4000000 in
set_option maxRecDepth 100000 in
theorem zu (p : Addr) (n cap : Nat) (w w' : World) (u : Value) (h : ∀ ty, (Builtin.append_ #[23,23] ty #[.slice (some ⟨w.heap.size, 0, none⟩) 0 0, .slice (some p) n cap]).run Tryz.prog (w.alloc (.cells #[] 28)) = .ok u w') : Calls Tryz.prog 43 #[.slice (some p) n cap] w fun e w'' => e = .returned u /\ w'' = w' := by
  have q : (binOp .eql 23 (.slice (some p) n cap) (.slice none 0 0)).run Tryz.prog w = .ok (.bool false) w := run_eql_slice_nil w 23 28 (some p) n cap lu
  go_enter Tryz.func43, Tryz.ntmps43
  go_wp2_with (at_builtin; refine Lib.wpList_append_run _ rfl _ _ _ _ rfl _ _ rfl rfl _ _ (h _) ?_)
  all_goals (go_ret; exact ⟨rfl, rfl⟩)
set_option maxHeartbeats 2000000 in
theorem VW (n : Nat) (f : Nat -> Nat -> IV) (hn : n <= 1000) : l7 Tryz.prog 43 [.one (.iv (.lst 7 n f))] (eO f 7 n 0) (fun i => .t (.one (.slc i 0 n 7))) := by
  intro H i hH w0 Z0 J Z s a w vs R hs hv
  subst hs
  obtain ⟨vs⟩ := vs
  match vs, hv with
  | [v], ⟨hv, _⟩ =>
    have hv : Rd w Z v (.lst 7 n f) := hv
    have hlen : (eO f 7 n 0).length = n * 7 := gK f 7 n 0
    have empty : ∀ (p : Addr) (cap : Nat), n = 0 -> v = .slice (some p) 0 cap -> Calls Tryz.prog 43 #[v] w fun e w' => ∃ v J' Z', e = .returned v /\ Rel w0 Z0 J' Z' { s with heap := hset s.heap i (eO f 7 n 0) } a w' /\ bB w' J' Z' v (.t (.one (.slc i 0 n 7))) := fun p cap h0 ev => by
      subst h0; subst ev
      obtain ⟨ii, h33⟩ : ∃ ii, Tryz.prog.info? 28 = some ii := by
        have := afZ
        cases h : Tryz.prog.info? 28 with
        | none => rw [h] at this; cases this
        | some i => exact ⟨i, rfl⟩
      refine (zu p 0 cap w _ _ fun ty => gX lu h33 _ _ 0 0 cap (Nat.le_refl _)).mono fun e w' ⟨he, hw⟩ => ?_
      subst hw
      have R1 := R.new (nid := i) (cs := []) (c := #[]) (e := 28) (H := hset s.heap i []) hH (aH _ _ _) (fun q hq => aJ _ _ _ _ hq) (by simp [aO])
      exact ⟨_, _, _, he, R1, Or.inr ⟨w.heap.size, 0, #[], 28, rfl, by simp [gF], Nat.zero_le _, Nat.zero_le _, heap_alloc_new w _, by simp⟩⟩
    have hv0 := hv
    cases hv with
    | nil p cap =>
      cases p with
      | none =>
        refine (MP cap w).mono fun e w' ⟨he, hw⟩ => ?_
        subst hw
        exact ⟨_, J, Z, he, R.qz (nid := i) hH (by rw [aH]; rfl) (fun q hq => aJ _ _ _ _ hq), Or.inl ⟨rfl, rfl⟩⟩
      | some p => exact empty p cap rfl rfl
    | lst b off _ cap _ _ X hz hc hm h1 h2 =>
      by_cases h0 : n = 0
      · exact empty ⟨b, off, none⟩ cap h0 (by rw [h0])
      · obtain ⟨hR1, G⟩ := R.call (ni w (.cells #[] 28))
        have hv1 : bQ (w.alloc (.cells #[] 28)) J (fun b => Z b \/ (w.heap.size <= b /\ b < (w.alloc (.cells #[] 28)).heap.size)) (.slice (some ⟨b, off, none⟩) n cap) (.one (.iv (.lst 7 n f))) := bK.grow G (CV.bP (.iv (.lst 7 n f))) hv0
        obtain ⟨ii, z, t1, t2, t3, t4, t5, t6, t7⟩ := gZ (P := Tryz.prog) (t := 23) (e := 28) (n := 7) (b := 72) (by kernel_rfl)
        rcases ku hR1 (size := 7) (m := n) (nd := True) (x := .one (.iv (.lst 7 n f))) (ns := eO f 7 n 0) (by simp [vR]) trivial hv1 with ⟨h, _⟩ | ⟨hpos, b2, off2, cap2, news, e2, n1, n2, n3, n4⟩
        · exact absurd h h0
        · cases e2
          have hrun := fun ty => run_append_grow (P := Tryz.prog) (w.alloc (.cells #[] 28)) 23 ty 28 ii z t1 t2 t3 ⟨w.heap.size, 0, none⟩ 0 0 [] (by simp) (fun j v h => by simp at h) ⟨b, off, none⟩ n cap news (by rw [n1, t5]) n2 (by omega) (by omega) (by
            rw [t6]; exact growslice_fits (by omega) (by omega))
          simp only [Nat.zero_add] at hrun
          have hsz := grownCap_ge (w.alloc (.cells #[] 28)) n 0 28
          have hmx := grownCap_le_maxLen (w.alloc (.cells #[] 28)) n 0 28 (by unfold maxLen; omega)
          generalize grownCap (w.alloc (.cells #[] 28)) n 0 28 = G at hrun hsz hmx
          have hC : G * 7 <= (([] : List Value).toArray ++ news.toArray ++ Builtin.zeroCells z.cells (G - n)).size := by
            simp only [Array.size_append, size_zeroCells, t4, List.size_toArray, n1, List.length_nil]
            omega
          have hD : aO (bK (w.alloc (.cells #[] 28)) J (fun b => Z b \/ (w.heap.size <= b /\ b < (w.alloc (.cells #[] 28)).heap.size))) ((([] : List Value).toArray ++ news.toArray ++ Builtin.zeroCells z.cells (G - n)).toList.take (eO f 7 n 0).length) (eO f 7 n 0) := by
            rw [Array.toList_append, Array.toList_append, List.nil_append, List.take_append_of_le_length (by simp; omega), List.take_of_length_le (by simp; omega)]
            exact n4
          generalize ([] : List Value).toArray ++ news.toArray ++ Builtin.zeroCells z.cells (G - n) = C at hrun hC hD
          have cl := zu ⟨b, off, none⟩ n cap w _ _ hrun
          have R2 := (hR1.drew).new (nid := i) (cs := eO f 7 n 0) (c := C) (e := 28) (H := hset s.heap i (eO f 7 n 0)) hH (aH _ _ _) (fun q hq => aJ _ _ _ _ hq) (lT hD)
          have hA := heap_alloc_new (w.alloc (.cells #[] 28)).drew (.cells C 28)
          generalize hw1 : w.alloc (.cells #[] 28) = w1 at cl R2 hA
          refine cl.mono fun e w' ⟨he, hw⟩ => ?_
          subst hw
          exact ⟨_, _, _, he, R2, Or.inr ⟨_, _, _, 28, rfl, by simp [gF], hsz, hmx, hA, by rw [Nat.zero_add]; exact hC⟩⟩
end Go.Proofs.YtcfechepbamhkaaGreat
