/- Part 13 of 16: contracts of functions and plain laws for the root text. No condition. -/
import Derived.Test.YtcfechepbamhkaaGreatY01
import Derived.Test.YtcfechepbamhkaaGreatY02
import Derived.Test.YtcfechepbamhkaaGreatY03
import Derived.Test.YtcfechepbamhkaaGreatY04
import Derived.Test.YtcfechepbamhkaaGreatY05
import Derived.Test.YtcfechepbamhkaaGreatY06
import Derived.Test.YtcfechepbamhkaaGreatY07
import Derived.Test.YtcfechepbamhkaaGreatY08
import Derived.Test.YtcfechepbamhkaaGreatY09
import Derived.Test.YtcfechepbamhkaaGreatY10
import Derived.Test.YtcfechepbamhkaaGreatY11
import Derived.Test.YtcfechepbamhkaaGreatY12
set_option linter.unusedVariables false
set_option linter.unusedSimpArgs false
set_option maxRecDepth 100000
set_option maxHeartbeats 4000000
namespace Go.Proofs.YtcfechepbamhkaaGreat
open Go.RowKit Go.Sea
open Nat renaming reduceAdd -> xA, reduceLT -> xL, reduceLeDiff -> xD, reduceEqDiff -> xE, reduceMul -> xM, reduceSub -> xS, reduceBEq -> xB
theorem Tp : aK Tryz.prog 119 = true := by kernel_rfl
theorem Mw : aK Tryz.prog 80 = true := by kernel_rfl
theorem Mk : aK Tryz.prog 88 = true := by kernel_rfl
theorem aky : fE Tryz.prog 25 = true := by kernel_rfl
theorem Z5 : dz Tryz.prog 25 1 = some (1, 1) := by kernel_rfl
theorem aiH : fJ Tryz.prog 25 = some [.iv (.g (.slice none 0 0)), .iv (.g (.slice none 0 0))] := by kernel_rfl
attribute [go_sem] Tp Mw aky Z5 aiH
theorem z8 {P : Program} {k : FuncId} {ts : List TV} {cs : List CV} {r : Nat -> AV} (h : lQ P k ts cs r) {H : List (Option (List CV))} {i : Nat} (hi : hget H i = none) : gW P k ts H (r i) (hset H i cs) := h H i hi
def mX (f : aj) (i : Nat) : List bE := (List.range f.k).map fun j => if j < i then wY (f.S j) f.n f.N else f.S j
theorem iy (f : aj) (i : Nat) : (mX f i).length = f.k := by simp [mX]
theorem V7 {f : aj} {i j : Nat} (h : j < f.k) : (mX f i).getD j bH = if j < i then wY (f.S j) f.n f.N else f.S j := by
  simp [mX, List.getD, h]
theorem N8 {f : aj} {i : Nat} (h : i < f.k) (X : bE) : ((mX f i).set i X).getD i bH = X := by
  rw [List.getD, List.getElem?_set_self (by rw [iy]; exact h)]; rfl
theorem agQ {f : aj} {i : Nat} (h : i < f.k) : (mX f i).set i (vg (f.S i) f.n f.N 0) = mX f i := by
  have e : (mX f i)[i]'(by rw [iy]; exact h) = f.S i := by simp [mX]
  show (mX f i).set i (f.S i) = _
  rw [<- e]; exact List.set_getElem_self _
theorem ahe {f : aj} {i j : Nat} (h : i < f.k) (hg : goW (f.S i) f.n f.N j) (hw : dI (vg (f.S i) f.n f.N j) f.n f.N = f.n) : (mX f i).set i (vg (f.S i) f.n f.N j) = mX f (i + 1) := by
  rw [<- aej hg hw]
  refine List.ext_getElem (by rw [List.length_set, iy, iy]) fun u h1 h2 => ?_
  rw [List.getElem_set]
  by_cases hu : i = u
  · rw [if_pos hu]; subst hu; simp [mX]
  · rw [if_neg hu]
    simp only [mX, List.getElem_map, List.getElem_range]
    by_cases g : u < i
    · rw [if_pos g, if_pos (by omega)]
    · rw [if_neg g, if_neg (by omega)]
theorem XO {f : aj} {i : Nat} (hi : (f.k : Int) <= i) : ∀ j o, j < f.k -> o < 13 -> (GX ((fP (mX f i)).getD (j * 13 + o) .any)).eqv (ji (JL f).S j o) := fun j o hj ho => by
  have h := X9 (mX f i) j o (by rw [iy]; exact hj) ho
  rw [V7 hj, if_pos (by omega)] at h; exact h
theorem Xg (S : Nat -> bE) : ∀ (n : Nat), Go.Sea.dZ (ji S) 13 n 0 = fP ((List.range n).map S) := fun n => by
  have hl : (Go.Sea.dZ (ji S) 13 n 0).length = (fP ((List.range n).map S)).length := by rw [fT, eD]; simp
  refine List.ext_getElem? fun i => ?_
  by_cases h : i < n * 13
  · have e : i = i / 13 * 13 + i % 13 := by omega
    have h1 := oQ (ji S) 13 n 0 (i / 13) (i % 13) (by omega) (Nat.mod_lt _ (by decide))
    rw [Nat.zero_add, <- e] at h1
    rw [h1]
    have h2 := uO ((List.range n).map S) (i / 13) (i % 13) (by simp; omega) (Nat.mod_lt _ (by decide))
    rw [<- e] at h2
    have hlt : i < (fP ((List.range n).map S)).length := by rw [eD]; simp; omega
    rw [List.getD, List.getElem?_eq_getElem hlt, Option.getD_some] at h2
    rw [List.getElem?_eq_getElem hlt, h2]
    have e3 : ((List.range n).map S).getD (i / 13) bH = S (i / 13) := by
      have : i / 13 < n := by omega
      simp [List.getD, this]
    rw [e3]
    have hm := Nat.mod_lt i (show 0 < 13 by decide)
    generalize i % 13 = o at hm
    generalize i / 13 = q
    rcases (by omega : o = 0 \/ o = 1 \/ o = 2 \/ o = 3 \/ o = 4 \/ o = 5 \/ o = 6 \/ o = 7 \/ o = 8 \/ o = 9 \/ o = 10 \/ o = 11 \/ o = 12) with rfl | rfl | rfl | rfl | rfl | rfl | rfl | rfl | rfl | rfl | rfl | rfl | rfl <;> rfl
  · rw [List.getElem?_eq_none (by rw [fT]; omega), List.getElem?_eq_none (by rw [eD]; simp; omega)]
theorem qD (f : aj) : Go.Sea.dZ (ji f.S) 13 f.k 0 = fP (mX f 0) := by
  rw [Xg]; congr 1
theorem ada (f : aj) (hf : f.Ok) (L : List bE) (i : Nat) (hL : L.length = f.k) (hi : i < f.k) (hk : f.k <= 1000) (X : bE) (hX : L.getD i bH = X) (hS : X.Ok) (hw : dI X f.n f.N < f.n) : gW Tryz.prog 88 [.one (.ptr 0 0), .one (.ptr 3 0)] ([some [.slc 2 0 f.k 13, .iv (.lst 7 f.n (fB f.N))], some [.iv (.g (.slice none 0 0)), .iv (.g (.slice none 0 0))], some (fP (L)), some [.iv (.g (.int .i64 (i : Int)))]]) (.t (.one (.iv (.g (.bool true))))) ([some [.slc 2 0 f.k 13, .iv (.lst 7 f.n (fB f.N))], some [.iv (.g (.slice none 0 0)), .iv (.g (.slice none 0 0))], some (fP (L.set i (mh X (f.N (dI X f.n f.N))))), some [.iv (.g (.int .i64 (i : Int)))], some [.iv (.g (.bool true))], some [.iv (.g (.int .i64 X.ch)), .iv (.g (.int .i64 X.sc)), .iv (.g (.int .i64 X.ed)), .iv (.g (.int .i64 X.m.A)), .iv (.g (.int .i64 X.m.B)), .iv (.g (.int .i64 X.m.C)), .iv (.g (.int .i64 X.m.D)), .iv (.g (.int .i64 X.m.E)), .iv (.g (.int .i64 X.m.F)), .iv (.g (.int .i64 X.m.R)), .iv (.g (.int .i64 X.cap)), .iv (.lst 1 X.q (bC X.dn)), .iv (.lst 9 X.n (dL X.f))], some [.iv (.lst 7 f.n (fB f.N))], some [.iv (.g (.int .i64 (f.N (dI X f.n f.N)).oc)), .iv (.g (.int .i64 (f.N (dI X f.n f.N)).nu)), .iv (.g (.int .i64 (f.N (dI X f.n f.N)).kd)), .iv (.g (.int .i64 (f.N (dI X f.n f.N)).fr)), .iv (.g (.int .i64 (f.N (dI X f.n f.N)).un)), .iv (.g (.int .i64 (f.N (dI X f.n f.N)).ca)), .iv (.lst 3 (f.N (dI X f.n f.N)).n (eO (f.N (dI X f.n f.N)).p))], some [.iv (.g (.int .i64 (f.N (dI X f.n f.N)).oc)), .iv (.g (.int .i64 (f.N (dI X f.n f.N)).nu)), .iv (.g (.int .i64 (f.N (dI X f.n f.N)).kd)), .iv (.g (.int .i64 (f.N (dI X f.n f.N)).fr)), .iv (.g (.int .i64 (f.N (dI X f.n f.N)).un)), .iv (.g (.int .i64 (f.N (dI X f.n f.N)).ca)), .iv (.lst 3 (f.N (dI X f.n f.N)).n (eO (f.N (dI X f.n f.N)).p))], none, none, none, none, none, none, none, none, none, none, some [.iv (.g (.int .i64 (mh X (f.N (dI X f.n f.N))).ch)), .iv (.g (.int .i64 (mh X (f.N (dI X f.n f.N))).sc)), .iv (.g (.int .i64 (mh X (f.N (dI X f.n f.N))).ed)), .iv (.g (.int .i64 (mh X (f.N (dI X f.n f.N))).m.A)), .iv (.g (.int .i64 (mh X (f.N (dI X f.n f.N))).m.B)), .iv (.g (.int .i64 (mh X (f.N (dI X f.n f.N))).m.C)), .iv (.g (.int .i64 (mh X (f.N (dI X f.n f.N))).m.D)), .iv (.g (.int .i64 (mh X (f.N (dI X f.n f.N))).m.E)), .iv (.g (.int .i64 (mh X (f.N (dI X f.n f.N))).m.F)), .iv (.g (.int .i64 (mh X (f.N (dI X f.n f.N))).m.R)), .iv (.g (.int .i64 (mh X (f.N (dI X f.n f.N))).cap)), .iv (.lst 1 (mh X (f.N (dI X f.n f.N))).q (bC (mh X (f.N (dI X f.n f.N))).dn)), .iv (.lst 9 (mh X (f.N (dI X f.n f.N))).n (dL (mh X (f.N (dI X f.n f.N))).f))]]) := by
  subst hX; exact ahq f hf L i hL hi hk hS hw
theorem abg (f : aj) (hf : f.Ok) (L : List bE) (i : Nat) (hL : L.length = f.k) (hi : i < f.k) (hk : f.k <= 1000) (X : bE) (hX : L.getD i bH = X) (hS : X.Ok) (hw : dI X f.n f.N = f.n) : gW Tryz.prog 88 [.one (.ptr 0 0), .one (.ptr 3 0)] ([some [.slc 2 0 f.k 13, .iv (.lst 7 f.n (fB f.N))], some [.iv (.g (.slice none 0 0)), .iv (.g (.slice none 0 0))], some (fP (L)), some [.iv (.g (.int .i64 (i : Int)))]]) (.t (.one (.iv (.g (.bool false))))) ([some [.slc 2 0 f.k 13, .iv (.lst 7 f.n (fB f.N))], some [.iv (.g (.slice none 0 0)), .iv (.g (.slice none 0 0))], some (fP (L)), some [.iv (.g (.int .i64 (i : Int)))], some [.iv (.g (.bool false))], some [.iv (.g (.int .i64 X.ch)), .iv (.g (.int .i64 X.sc)), .iv (.g (.int .i64 X.ed)), .iv (.g (.int .i64 X.m.A)), .iv (.g (.int .i64 X.m.B)), .iv (.g (.int .i64 X.m.C)), .iv (.g (.int .i64 X.m.D)), .iv (.g (.int .i64 X.m.E)), .iv (.g (.int .i64 X.m.F)), .iv (.g (.int .i64 X.m.R)), .iv (.g (.int .i64 X.cap)), .iv (.lst 1 X.q (bC X.dn)), .iv (.lst 9 X.n (dL X.f))], some [.iv (.lst 7 f.n (fB f.N))]]) := by
  subst hX; exact ahw f hf L i hL hi hk hS hw
theorem aep (f : aj) (hf : f.Ok) (hk : f.k <= 1000) : aA Tryz.prog 44 [iw f] (.t (iw (JL f))) := by
  have hn := hf.n
  refine ak Tryz.func44 rfl (by rw [Tryz.ntmps44]; simp) ?_
  simp only [Tryz.ntmps44, zM, PT.tv, au, Nat.zero_add, Nat.reduceAdd]
  repeat' (first
 | ((with_reducible show AW _ _ _ _); first
 | (with_reducible first | refine aS (fun K hK => ?_) | refine aI ?_ | refine aX ?_ | refine aT ?_ | refine aC ?_ | refine aB ?_)
 | (first
 | (with_reducible first | refine aP 0 [0] ?_ | refine aP 1 [1,2] ?_ | refine aP 2 [1,2] ?_ | refine aP 3 [1,2,11,12] ?_ | refine aP 4 [1,2,11,12] ?_ | refine aP 5 [1,2,3,11,12] ?_ | refine aP 6 [1,2,4,11,12] ?_ | refine aP 7 [1,2,11,12] ?_ | refine wO (c := Code.region 8 _ false) [2] ?_ (aP 8 [1,2] ?_)))
 | ((with_reducible show AW _ (Code.loop _) _ _); first
 | ((with_reducible refine qG (c := (Code.seq (Code.region 3 _ _) _)) (ι := Nat) [1,2,11] (fun i => [(12, iA .i64 (i : Int))]) (fun i => [some [.slc 2 0 f.k 13, .iv (.lst 7 f.n (fB f.N))], some [.iv (.g (.slice none 0 0)), .iv (.g (.slice none 0 0))], some (fP (mX f i))]) (fun i => i <= f.k) (fun i => f.k - i) 0 ?lg3 ?l13 ?l23 ?li3 ?lr3); (case' lg3 => rintro i _; exact zA.nil _); (case' li3 => try (omega)); (case' lr3 => rintro i hi KR hR3; simp only [bD, dD, hset, lk, if_true, if_false, xE, reduceIte, zN, bT, bX, bQ, bW, bP, bS, bY, bR, bU, bV, bg, bB, bn, qD, gI, uL, eD, iy, List.set_set, List.length_set]))
 | ((with_reducible refine qG (c := (Code.seq (Code.seq (Code.region 6 _ _) _) _)) (ι := Nat) [1,2,4,11,12] (fun j => []) (fun j => [some [.slc 2 0 f.k 13, .iv (.lst 7 f.n (fB f.N))], some [.iv (.g (.slice none 0 0)), .iv (.g (.slice none 0 0))], some (fP (((mX f i).set i (vg (f.S i) f.n f.N j)))), some [.iv (.g (.int .i64 (i : Int)))]]) (fun j => goW (f.S i) f.n f.N j) (fun j => 201 - j) 0 ?lg6 ?l16 ?l26 ?li6 ?lr6); (case' lg6 => rintro j _; exact zA.nil _); (case' li6 => try (exact fun i hi => absurd hi (Nat.not_lt_zero i))); (case' lr6 => rintro j hg KR hR6; have hgl := Tx hg; rcases Nat.lt_or_ge (dI (vg (f.S i) f.n f.N j) f.n f.N) f.n with hw | hw; all_goals (try (have hw := Nat.le_antisymm (Ni (vg (f.S i) f.n f.N j) f.n f.N) hw)); simp only [bD, dD, hset, lk, if_true, if_false, xE, reduceIte, zN, bT, bX, bQ, bW, bP, bS, bY, bR, bU, bV, bg, bB, bn, qD, gI, uL, eD, iy, List.set_set, List.length_set]))))
 | ((first | (with_reducible refine And.intro ?_ ?_) | (with_reducible refine Need.mk ?_)); focus (first | exact mI _ | exact True.intro))
 | (with_reducible refine aJ ?_)
 | ((with_reducible show bL _ _ _ _ _ _); first
 | ((with_reducible refine aM ?_ ?_) <;> (intro hc; (try simp only [zB, zC, reduceCtorEq] at hc); ((try (have e0 : f.k = i := (by omega)))); (try (exfalso; contradiction)))))
 | ((with_reducible show aW _ _ _ _ _ _ _ _ _ _); first
 | (refine nP (k := 80) Mw (z8 (Xu f.k (ji f.S) hk) (i := 2) rfl) ?_ ?_)
 | (refine Ir (k := 88) Mk (ada f hf ((mX f i).set i (vg (f.S i) f.n f.N j)) i (by rw [List.length_set, iy]) (by omega) hk (vg (f.S i) f.n f.N j) (N8 (by omega) _) (Kg (hf.s i (by omega)) j) (by assumption)) ?_ ?_)
 | (refine Ir (k := 88) Mk (abg f hf ((mX f i).set i (vg (f.S i) f.n f.N j)) i (by rw [List.length_set, iy]) (by omega) hk (vg (f.S i) f.n f.N j) (N8 (by omega) _) (Kg (hf.s i (by omega)) j) (by assumption)) ?_ ?_))
 | ((with_reducible refine hR3 _ (i + 1) ?_); (try clear hR3 KR))
 | ((with_reducible refine hR6 _ (j + 1) ?_); (try clear hR6 KR))
 | ((with_reducible refine Told.mk ?_); simp only [go_sem, reduceIte, reduceCtorEq, xA, xL, xD, xE, xM, xS, xB, bT, bX, bQ, bW, bP, bS, bY, bR, bU, bV, bg, bB, bn, bC, qD, gI, uL, eD, iy, List.set_set, List.length_set] <;> (first | (((try simp (disch := omega) only [aY, Int.natCast_add, Int.cast_ofNat_Int, and_true, true_and, and_self]); (repeat' (first | omega | (with_reducible refine And.intro ?_ ?_) | (exact all_succ (by assumption) (by assumption)) | ((exact jQ rfl (mI _))) | ((exact jQ (congrArg fP (ahe (by omega) hg (by assumption))) (mI _))))); done)) | (((try simp (disch := omega) only [aY, Int.natCast_add, Int.cast_ofNat_Int, and_true, true_and, and_self]); (repeat' (((exact jQ (congrArg fP (agQ (by omega)).symm) (mI _))))); done))))
 | ((fail_if_success (with_reducible show AW _ _ _ _)); simp (maxSteps := 2000000) only [go_sem, reduceIte, reduceCtorEq, xA, xL, xD, xE, xM, xS, xB, Tryz.f44, bT, bX, bQ, bW, bP, bS, bY, bR, bU, bV, bg, bB, bn, bC, qD, gI, uL, eD, iy, List.set_set, List.length_set])
 | ((with_reducible refine hK _ ?_); clear hK K)
 | (with_reducible apply_assumption -exfalso only [*]))
  all_goals (exact ⟨⟨rfl, XO (by assumption)⟩, rfl, fun i o hi ho => IV.bG _⟩)
end Go.Proofs.YtcfechepbamhkaaGreat
set_option maxRecDepth 100000
set_option maxHeartbeats 4000000
namespace Go.Proofs.YtcfechepbamhkaaGreat
open Go.RowKit Go.Sea
open Nat renaming reduceAdd -> xA, reduceLT -> xL, reduceLeDiff -> xD, reduceEqDiff -> xE, reduceMul -> xM, reduceSub -> xS, reduceBEq -> xB
theorem Iw : aK Tryz.prog 103 = true := by kernel_rfl
theorem IC : aK Tryz.prog 104 = true := by kernel_rfl
theorem GA : aK Tryz.prog 141 = true := by kernel_rfl
theorem Nw : aK Tryz.prog 54 = true := by kernel_rfl
theorem YV : aK Tryz.prog 55 = true := by kernel_rfl
theorem Nj : aK Tryz.prog 57 = true := by kernel_rfl
attribute [go_sem] Iw IC GA Nw Nj
def Gc (n m : Nat) (f g : Nat -> eG) : Bool := decide (n = m /\ ∀ i, i < n -> qW (f i) (g i) = true)
def wE (p q : d9) : Bool := decide (p.ch = q.ch) && oC p.q q.q p.a q.a && Gc p.k q.k p.o q.o
def Ld (n m : Nat) (f g : Nat -> d9) : Bool := decide (n = m /\ ∀ i, i < n -> wE (f i) (g i) = true)
def qp (a b : ah) : Bool := decide (a.oc = b.oc /\ a.nu = b.nu /\ a.kd = b.kd /\ a.fr = b.fr /\ a.un = b.un /\ a.ca = b.ca) && Ld a.n b.n a.p b.p
theorem Un {n m : Nat} {f g : Nat -> eG} (h : (n : Int) ≠ m) : false = Gc n m f g := (decide_eq_false fun q => h (by rw [q.1])).symm
theorem Yg {n m : Nat} {f g : Nat -> eG} {i : Nat} (hi : (i : Int) < n) (h : qW (f i) (g i) = false) : false = Gc n m f g := (decide_eq_false fun q => by have := q.2 i (by omega); rw [h] at this; cases this).symm
theorem Yr {n m : Nat} {f g : Nat -> eG} {i : Nat} (h : (n : Int) = m) (hi : (n : Int) <= i) (a : ∀ j, j < i -> qW (f j) (g j) = true) : true = Gc n m f g := (decide_eq_true ⟨by omega, fun j hj => a j (by omega)⟩).symm
theorem UY {n m : Nat} {f g : Nat -> d9} (h : (n : Int) ≠ m) : false = Ld n m f g := (decide_eq_false fun q => h (by rw [q.1])).symm
theorem SQ {n m : Nat} {f g : Nat -> d9} {i : Nat} (hi : (i : Int) < n) (h : wE (f i) (g i) = false) : false = Ld n m f g := (decide_eq_false fun q => by have := q.2 i (by omega); rw [h] at this; cases this).symm
theorem Wj {n m : Nat} {f g : Nat -> d9} {i : Nat} (h : (n : Int) = m) (hi : (n : Int) <= i) (a : ∀ j, j < i -> wE (f j) (g j) = true) : true = Ld n m f g := (decide_eq_true ⟨by omega, fun j hj => a j (by omega)⟩).symm
theorem ahb {p q : d9} (h : (p.ch ≠ q.ch \/ oC p.q q.q p.a q.a = false) \/ Gc p.k q.k p.o q.o = false) : wE p q = false := by
  unfold wE
  rcases h with (h | h) | h
  · rw [decide_eq_false h]; rfl
  · rw [h]; simp
  · rw [h]; simp
theorem aeg {p q : d9} (h : (p.ch = q.ch /\ oC p.q q.q p.a q.a = true) /\ Gc p.k q.k p.o q.o = true) : wE p q = true := by
  unfold wE; rw [decide_eq_true h.1.1, h.1.2, h.2]; rfl
theorem adG {a b : ah} (h : ((((a.oc ≠ b.oc \/ a.nu ≠ b.nu) \/ a.kd ≠ b.kd) \/ a.fr ≠ b.fr) \/ a.un ≠ b.un) \/ a.ca ≠ b.ca) : false = qp a b := by
  unfold qp; rw [decide_eq_false (fun g => by omega)]; rfl
theorem ady {a b : ah} (h : ((((a.oc = b.oc /\ a.nu = b.nu) /\ a.kd = b.kd) /\ a.fr = b.fr) /\ a.un = b.un) /\ a.ca = b.ca) : Ld a.n b.n a.p b.p = qp a b := by
  unfold qp; rw [decide_eq_true (by omega)]; rfl
theorem ail {a b : ah} (h : (a.n : Int) ≠ b.n) : false = qp a b := by
  unfold qp; rw [<- UY h, Bool.and_false]
theorem afJ (n m : Nat) (s t : Nat -> Int) (hn : n <= 9223372036854775807) (hm : m <= 9223372036854775807) : aA Tryz.prog 103 [.one (.lst 1 n (bC s)), .one (.lst 1 m (bC t))] (.t (.one (.g (.bool (oC n m s t))))) := by
  refine ak Tryz.func103 rfl (by rw [Tryz.ntmps103]; simp) ?_
  simp only [Tryz.ntmps103, zM, PT.tv, au, Nat.zero_add, Nat.reduceAdd]
  repeat' (first
 | ((with_reducible show AW _ _ _ _); first
 | (with_reducible first | refine aS (fun K hK => ?_) | refine aI ?_ | refine aX ?_ | refine aT ?_ | refine aC ?_ | refine aB ?_)
 | (first
 | (with_reducible first | refine aP 0 [0,1] ?_ | refine aP 1 [0,1] ?_ | refine aP 2 [] ?_ | refine aP 3 [0,1] ?_ | refine aP 4 [0,1,5] ?_ | refine aP 5 [0,1,5] ?_)
 | ((with_reducible refine aR (c := Code.region 6 _ true) [0,1,5] ?_); (with_reducible refine aD ?_ ?_ ?_ ?_); (focus kernel_rfl); (focus kernel_rfl); (focus kernel_rfl))
 | (with_reducible first | refine aP 7 [] ?_ | refine aP 8 [] ?_))
 | ((with_reducible show AW _ (Code.loop _) _ _); first
 | ((with_reducible refine aL (c := (Code.seq (Code.seq (Code.region 4 _ _) _) _)) (ι := Nat) [0,1] (fun i => [(5, iA .i64 (i : Int))]) (fun i => []) (fun i => i <= n /\ (∀ i', i' < i -> s i' = t i')) (fun i => n - i) 0 ?lg4 ?l14 ?l24 ?li4 ?lr4); (case' lg4 => rintro i _); (case' li4 => try (exact ⟨Nat.zero_le _, fun i hi => absurd hi (Nat.not_lt_zero _)⟩)); (case' lr4 => rintro i ⟨hi, hai⟩ KR hR4; simp only [bD, dD, hset, lk, if_true, if_false, xE, reduceIte, zN]))))
 | (((with_reducible refine And.intro ?_ ?_)); focus (omega))
 | (with_reducible refine aJ ?_)
 | ((with_reducible show bL _ _ _ _ _ _); first
 | ((with_reducible refine aM ?_ ?_) <;> (intro hc; (try simp only [zB, zC, reduceCtorEq] at hc); (try (exfalso; contradiction)))))
 | ((with_reducible refine And.intro ?_ ?_); focus ((with_reducible show gV _ _ _ = true); kernel_rfl))
 | ((with_reducible refine hR4 _ (i + 1) ?_); (try clear hR4 KR))
 | ((with_reducible refine Told.mk ?_); simp only [go_sem, reduceIte, reduceCtorEq, xA, xL, xD, xE, xM, xS, xB, bC] <;> ((((try simp (disch := omega) only [aY, Int.natCast_add, Int.cast_ofNat_Int, and_true, true_and, and_self]); (repeat' (first | omega | (with_reducible refine And.intro ?_ ?_) | (exact all_succ (by assumption) (by assumption)) )); done))))
 | ((fail_if_success (with_reducible show AW _ _ _ _)); simp (maxSteps := 2000000) only [go_sem, reduceIte, reduceCtorEq, xA, xL, xD, xE, xM, xS, xB, Tryz.f103, bC])
 | ((with_reducible refine hK _ ?_); clear hK K)
 | (with_reducible apply_assumption -exfalso only [*]))
  all_goals first | exact Et (by assumption) | exact EF (by assumption) hc | exact Ey (by omega) (by assumption) hai | skip
theorem agm (a b : eG) (ha : a.f.Ok) (hb : b.f.Ok) : aA Tryz.prog 141 [.agg [.g (.int .i64 (a.kd)), .g (.int .i64 (a.id)), .g (.int .i64 (a.f.id)), .g (.int .i64 (a.f.kd)), .g (.int .i64 (a.f.x)), .g (.int .i64 (a.f.y)), .g (.int .i64 (a.f.r)), .lst 2 a.f.n (dY a.f.P), .g (.int .i64 (a.f.d)), .g (.int .i64 (a.f.s)), .lst 6 a.f.m (dY a.f.S), .g (.int .i64 (a.x)), .g (.int .i64 (a.y)), .g (.int .i64 (a.r)), .g (.int .i64 (a.d)), .g (.int .i64 (a.s))], .agg [.g (.int .i64 (b.kd)), .g (.int .i64 (b.id)), .g (.int .i64 (b.f.id)), .g (.int .i64 (b.f.kd)), .g (.int .i64 (b.f.x)), .g (.int .i64 (b.f.y)), .g (.int .i64 (b.f.r)), .lst 2 b.f.n (dY b.f.P), .g (.int .i64 (b.f.d)), .g (.int .i64 (b.f.s)), .lst 6 b.f.m (dY b.f.S), .g (.int .i64 (b.x)), .g (.int .i64 (b.y)), .g (.int .i64 (b.r)), .g (.int .i64 (b.d)), .g (.int .i64 (b.s))]] (.t (.one (.g (.bool (qW a b))))) := by
  refine ak Tryz.func141 rfl (by rw [Tryz.ntmps141]; simp) ?_
  simp only [Tryz.ntmps141, zM, PT.tv, au, Nat.zero_add, Nat.reduceAdd]
  repeat' (first
 | ((with_reducible show AW _ _ _ _); first
 | (with_reducible first | refine aS (fun K hK => ?_) | refine aT ?_)
 | (first
 | (with_reducible first | refine aP 0 [0,1] ?_ | refine aP 1 [2,3] ?_)))
 | (((with_reducible refine Need.mk ?_)); focus ((intro _; (with_reducible assumption))))
 | (with_reducible refine aJ ?_)
 | ((with_reducible show bM _ _ _ _ _ _ _ _ _ _); first
 | (refine aO (k := 64) Fj (fun hg => Jb a.f b.f ha hb) ?_ ?_))
 | ((fail_if_success (with_reducible show AW _ _ _ _)); simp (maxSteps := 2000000) only [go_sem, reduceIte, reduceCtorEq, xA, xL, xD, xE, xM, xS, xB, Tryz.f141, Go.Sea.nk])
 | ((with_reducible refine hK _ ?_); clear hK K))
  all_goals (unfold qW; refine Bool.eq_iff_iff.2 ?_; simp only [Bool.and_eq_true, decide_eq_true_eq, beq_iff_eq]; exact ⟨fun h => by simp only [h, and_self], fun h => by simp only [h, and_self]⟩)
theorem ag7 (n m : Nat) (f g : Nat -> eG) (hn : n <= 9223372036854775807) (hm : m <= 9223372036854775807) (hf : ∀ i, i < n -> (f i).f.Ok) (hg : ∀ i, i < m -> (g i).f.Ok) : aA Tryz.prog 104 [.one (.lst 16 n (iC f)), .one (.lst 16 m (iC g))] (.t (.one (.g (.bool (Gc n m f g))))) := by
  refine ak Tryz.func104 rfl (by rw [Tryz.ntmps104]; simp) ?_
  simp only [Tryz.ntmps104, zM, PT.tv, au, Nat.zero_add, Nat.reduceAdd]
  repeat' (first
 | ((with_reducible show AW _ _ _ _); first
 | (with_reducible first | refine aS (fun K hK => ?_) | refine aI ?_ | refine aX ?_ | refine aT ?_ | refine aC ?_ | refine aB ?_)
 | (first
 | (with_reducible first | refine aP 0 [0,1] ?_ | refine aP 1 [0,1] ?_ | refine aP 2 [] ?_ | refine aP 3 [0,1] ?_ | refine aP 4 [0,1,5] ?_ | refine aP 5 [0,1,5] ?_)
 | ((with_reducible refine aR (c := Code.region 6 _ true) [0,1,5] ?_); (with_reducible refine aD ?_ ?_ ?_ ?_); (focus kernel_rfl); (focus kernel_rfl); (focus kernel_rfl))
 | (with_reducible first | refine aP 7 [] ?_ | refine aP 8 [] ?_))
 | ((with_reducible show AW _ (Code.loop _) _ _); first
 | ((with_reducible refine aL (c := (Code.seq (Code.seq (Code.region 4 _ _) _) _)) (ι := Nat) [0,1] (fun i => [(5, iA .i64 (i : Int))]) (fun i => []) (fun i => i <= n /\ (∀ i', i' < i -> qW (f i') (g i') = true)) (fun i => n - i) 0 ?lg4 ?l14 ?l24 ?li4 ?lr4); (case' lg4 => rintro i _); (case' li4 => try (exact ⟨Nat.zero_le _, fun i hi => absurd hi (Nat.not_lt_zero _)⟩)); (case' lr4 => rintro i ⟨hi, hai⟩ KR hR4; simp only [bD, dD, hset, lk, if_true, if_false, xE, reduceIte, zN]))))
 | ((first | (with_reducible refine And.intro ?_ ?_) | (with_reducible refine Need.mk ?_)); focus (first | exact True.intro | omega))
 | (with_reducible refine aJ ?_)
 | ((with_reducible show bL _ _ _ _ _ _); first
 | ((with_reducible refine aM ?_ ?_) <;> (intro hc; (try simp only [zB, zC, reduceCtorEq] at hc); (try (exfalso; contradiction)))))
 | ((with_reducible refine And.intro ?_ ?_); focus ((with_reducible show gV _ _ _ = true); kernel_rfl))
 | ((with_reducible show eT _ _ _ _ _ _ _ _ _ _ _ _ _); first
 | (refine dh (k := 141) GA (agm (f i) (g i) (hf i (by omega)) (hg i (by omega))) ?_ ?_))
 | ((with_reducible refine hR4 _ (i + 1) ?_); (try clear hR4 KR))
 | ((with_reducible refine Told.mk ?_); simp only [go_sem, reduceIte, reduceCtorEq, xA, xL, xD, xE, xM, xS, xB] <;> ((((try simp (disch := omega) only [aY, Int.natCast_add, Int.cast_ofNat_Int, and_true, true_and, and_self]); (repeat' (first | omega | (with_reducible refine And.intro ?_ ?_) | (exact all_succ (by assumption) (by assumption)) )); done))))
 | ((fail_if_success (with_reducible show AW _ _ _ _)); simp (maxSteps := 2000000) only [go_sem, reduceIte, reduceCtorEq, xA, xL, xD, xE, xM, xS, xB, Tryz.f104])
 | ((with_reducible refine hK _ ?_); clear hK K)
 | (with_reducible apply_assumption -exfalso only [*]))
  all_goals first | exact Un (by assumption) | exact Yg (by assumption) hc | exact Yr (by omega) (by assumption) hai | skip
theorem aio (a b : ah) (ha : a.Ok) (hb : b.Ok) : aA Tryz.prog 50 [.agg [.g (.int .i64 a.oc), .g (.int .i64 a.nu), .g (.int .i64 a.kd), .g (.int .i64 a.fr), .g (.int .i64 a.un), .g (.int .i64 a.ca), .lst 3 a.n (eO a.p)], .agg [.g (.int .i64 b.oc), .g (.int .i64 b.nu), .g (.int .i64 b.kd), .g (.int .i64 b.fr), .g (.int .i64 b.un), .g (.int .i64 b.ca), .lst 3 b.n (eO b.p)]] (.t (.one (.g (.bool (qp a b))))) := by
  have hna := ha.n
  have hnb := hb.n
  refine ak Tryz.func50 rfl (by rw [Tryz.ntmps50]; simp) ?_
  simp only [Tryz.ntmps50, zM, PT.tv, au, Nat.zero_add, Nat.reduceAdd]
  repeat' (first
 | ((with_reducible show AW _ _ _ _); first
 | (with_reducible first | refine aS (fun K hK => ?_) | refine aI ?_ | refine aX ?_ | refine aT ?_ | refine aC ?_ | refine aB ?_)
 | (first
 | (with_reducible first | refine aP 0 [0,1] ?_ | refine aP 1 [2,3] ?_ | refine aP 2 [] ?_ | refine aP 3 [2,3] ?_ | refine aP 4 [2,3,5] ?_ | refine aP 5 [2,3,5] ?_ | refine aP 6 [2,3,5] ?_ | refine aP 7 [2,3,5,6] ?_ | refine aP 8 [2,3,5,6,7] ?_ | refine aP 9 [] ?_ | refine aP 10 [] ?_))
 | ((with_reducible show AW _ (Code.loop _) _ _); first
 | ((with_reducible refine aL (c := (Code.seq (Code.seq (Code.region 4 _ _) _) _)) (ι := Nat) [2,3] (fun i => [(5, iA .i64 (i : Int))]) (fun i => []) (fun i => i <= a.n /\ (∀ j, j < i -> wE (a.p j) (b.p j) = true)) (fun i => a.n - i) 0 ?lg4 ?l14 ?l24 ?li4 ?lr4); (case' lg4 => rintro i _); (case' li4 => try (exact ⟨Nat.zero_le _, fun i hi => absurd hi (Nat.not_lt_zero _)⟩)); (case' lr4 => rintro i ⟨hi, hai⟩ KR hR4; simp only [bD, dD, hset, lk, if_true, if_false, xE, reduceIte, zN]))))
 | ((first | (with_reducible refine And.intro ?_ ?_) | (with_reducible refine Need.mk ?_)); focus (first | omega | (intro _; (with_reducible assumption)) | (simp; done)))
 | (with_reducible refine aJ ?_)
 | ((with_reducible show bL _ _ _ _ _ _); first
 | ((with_reducible refine aM ?_ ?_) <;> (intro hc; (try simp only [zB, zC, reduceCtorEq] at hc); (try (exfalso; contradiction)))))
 | ((with_reducible show bM _ _ _ _ _ _ _ _ _ _); first
 | (refine aO (k := 103) Iw (fun hg => afJ _ _ _ _ (ha.p i (by omega)).q (hb.p i (by omega)).q) ?_ ?_)
 | (refine aO (k := 104) IC (fun hg => ag7 _ _ _ _ (ha.p i (by omega)).k (hb.p i (by omega)).k (ha.p i (by omega)).o (hb.p i (by omega)).o) ?_ ?_))
 | ((with_reducible refine hR4 _ (i + 1) ?_); (try clear hR4 KR))
 | ((with_reducible refine Told.mk ?_); simp only [go_sem, reduceIte, reduceCtorEq, xA, xL, xD, xE, xM, xS, xB, bC] <;> ((((try simp (disch := omega) only [aY, Int.natCast_add, Int.cast_ofNat_Int, and_true, true_and, and_self]); (repeat' (first | omega | (with_reducible refine And.intro ?_ ?_) | ((exact all_succ (by assumption) (aeg (by assumption)))))); done))))
 | ((fail_if_success (with_reducible show AW _ _ _ _)); simp (maxSteps := 2000000) only [go_sem, reduceIte, reduceCtorEq, xA, xL, xD, xE, xM, xS, xB, Tryz.f50, bC])
 | ((with_reducible refine hK _ ?_); clear hK K)
 | (with_reducible apply_assumption -exfalso only [*]))
  all_goals first | exact hc.elim adG ail | (rw [<- ady (by omega)]; first | exact SQ (by assumption) (ahb (by assumption)) | exact Wj (by omega) (by assumption) hai) | skip
theorem aiS (n m : Nat) (f g : Nat -> eG) (hn : n <= 9223372036854775807) (hm : m <= 9223372036854775807) (hf : ∀ i, i < n -> (f i).f.Ok) (hg : ∀ i, i < m -> (g i).f.Ok) : aA Tryz.prog 57 [.one (.lst 16 n (iC f)), .one (.lst 16 m (iC g)), .one (.g (.func (.func 58) #[] #[]))] (.t (.one (.g (.bool (Gc n m f g))))) := by
  refine ak Tryz.func57 rfl (by rw [Tryz.ntmps57]; simp) ?_
  simp only [Tryz.ntmps57, zM, PT.tv, au, Nat.zero_add, Nat.reduceAdd]
  repeat' (first
 | ((with_reducible show AW _ _ _ _); first
 | (with_reducible first | refine aS (fun K hK => ?_) | refine aI ?_ | refine aX ?_ | refine aT ?_ | refine aC ?_ | refine aB ?_)
 | (first
 | (with_reducible first | refine aP 0 [0,1,2] ?_ | refine aP 1 [0,1,2] ?_ | refine aP 2 [] ?_ | refine aP 3 [0,1,2] ?_ | refine aP 4 [1,2,15,16,17] ?_ | refine aP 5 [1,2,15,16,17] ?_ | refine aP 6 [1,2,7,8,15,16,17] ?_ | refine aP 7 [1,2,8,9,15,16,17] ?_ | refine aP 8 [] ?_ | refine aP 9 [1,2,15,16,17] ?_ | refine aP 10 [] ?_))
 | ((with_reducible show AW _ (Code.loop _) _ _); first
 | ((with_reducible refine aL (c := (Code.seq (Code.region 4 _ _) _)) (ι := Nat) [1,2,15,16] (fun i => [(17, iA .i64 (i : Int))]) (fun i => []) (fun i => i <= n /\ (∀ i', i' < i -> qW (f i') (g i') = true)) (fun i => n - i) 0 ?lg4 ?l14 ?l24 ?li4 ?lr4); (case' lg4 => rintro i _); (case' li4 => try (exact ⟨Nat.zero_le _, fun i hi => absurd hi (Nat.not_lt_zero _)⟩)); (case' lr4 => rintro i ⟨hi, hai⟩ KR hR4; simp only [bD, dD, hset, lk, if_true, if_false, xE, reduceIte, zN]))))
 | ((first | (with_reducible refine And.intro ?_ ?_) | (with_reducible refine Need.mk ?_)); focus (first | exact True.intro | omega))
 | (with_reducible refine aJ ?_)
 | ((with_reducible show bL _ _ _ _ _ _); first
 | ((with_reducible refine aM ?_ ?_) <;> (intro hc; (try simp only [zB, zC, reduceCtorEq] at hc); (try (exfalso; contradiction)))))
 | ((with_reducible show aW _ _ _ _ _ _ _ _ _ _); first
 | (refine aF (k := 58) EH (ad3 (f i) (g i) (hf i (by omega)) (hg i (by omega))) ?_ ?_))
 | ((with_reducible refine hR4 _ (i + 1) ?_); (try clear hR4 KR))
 | ((with_reducible refine Told.mk ?_); simp only [go_sem, reduceIte, reduceCtorEq, xA, xL, xD, xE, xM, xS, xB] <;> ((((try simp (disch := omega) only [aY, Int.natCast_add, Int.cast_ofNat_Int, and_true, true_and, and_self]); (repeat' (first | omega | (with_reducible refine And.intro ?_ ?_) | (exact all_succ (by assumption) (by assumption)) )); done))))
 | ((fail_if_success (with_reducible show AW _ _ _ _)); simp (maxSteps := 2000000) only [go_sem, reduceIte, reduceCtorEq, xA, xL, xD, xE, xM, xS, xB, Tryz.f57])
 | ((with_reducible refine hK _ ?_); clear hK K)
 | (with_reducible apply_assumption -exfalso only [*]))
  all_goals first | exact Un (by assumption) | exact Yg (by assumption) hc | exact Yr (by omega) (by assumption) hai | skip
theorem abx (p q : d9) (hp : p.Ok) (hq : q.Ok) : aA Tryz.prog 55 [.agg [.g (.int .i64 p.ch), .lst 1 p.q (bC p.a), .lst 16 p.k (iC p.o)], .agg [.g (.int .i64 q.ch), .lst 1 q.q (bC q.a), .lst 16 q.k (iC q.o)]] (.t (.one (.g (.bool (wE p q))))) := by
  refine ak Tryz.func55 rfl (by rw [Tryz.ntmps55]; simp) ?_
  simp only [Tryz.ntmps55, zM, PT.tv, au, Nat.zero_add, Nat.reduceAdd]
  repeat' (first
 | ((with_reducible show AW _ _ _ _); first
 | (with_reducible first | refine aS (fun K hK => ?_) | refine aT ?_)
 | (first
 | (with_reducible first | refine aP 0 [0,1] ?_ | refine aP 1 [2,3] ?_)))
 | (((with_reducible refine Need.mk ?_)); focus ((intro _; (with_reducible assumption))))
 | (with_reducible refine aJ ?_)
 | ((with_reducible show bM _ _ _ _ _ _ _ _ _ _); first
 | (refine aO (k := 56) Nv (fun hg => aiO _ _ _ _ hp.q hq.q) ?_ ?_)
 | (refine aO (k := 57) Nj (fun hg => aiS _ _ _ _ hp.k hq.k hp.o hq.o) ?_ ?_))
 | ((fail_if_success (with_reducible show AW _ _ _ _)); simp (maxSteps := 2000000) only [go_sem, reduceIte, reduceCtorEq, xA, xL, xD, xE, xM, xS, xB, Tryz.f55, bC])
 | ((with_reducible refine hK _ ?_); clear hK K))
  all_goals (unfold wE; rfl)
theorem aiX (n m : Nat) (f g : Nat -> d9) (hn : n <= 9223372036854775807) (hm : m <= 9223372036854775807) (hf : ∀ i, i < n -> (f i).Ok) (hg : ∀ i, i < m -> (g i).Ok) : aA Tryz.prog 54 [.one (.lst 3 n (eO f)), .one (.lst 3 m (eO g)), .one (.g (.func (.func 55) #[] #[]))] (.t (.one (.g (.bool (Ld n m f g))))) := by
  refine ak Tryz.func54 rfl (by rw [Tryz.ntmps54]; simp) ?_
  simp only [Tryz.ntmps54, zM, PT.tv, au, Nat.zero_add, Nat.reduceAdd]
  repeat' (first
 | ((with_reducible show AW _ _ _ _); first
 | (with_reducible first | refine aS (fun K hK => ?_) | refine aI ?_ | refine aX ?_ | refine aT ?_ | refine aC ?_ | refine aB ?_)
 | (first
 | (with_reducible first | refine aP 0 [0,1,2] ?_ | refine aP 1 [0,1,2] ?_ | refine aP 2 [] ?_ | refine aP 3 [0,1,2] ?_ | refine aP 4 [1,2,15,16,17] ?_ | refine aP 5 [1,2,15,16,17] ?_ | refine aP 6 [1,2,7,8,15,16,17] ?_ | refine aP 7 [1,2,8,9,15,16,17] ?_ | refine aP 8 [] ?_ | refine aP 9 [1,2,15,16,17] ?_ | refine aP 10 [] ?_))
 | ((with_reducible show AW _ (Code.loop _) _ _); first
 | ((with_reducible refine aL (c := (Code.seq (Code.region 4 _ _) _)) (ι := Nat) [1,2,15,16] (fun i => [(17, iA .i64 (i : Int))]) (fun i => []) (fun i => i <= n /\ (∀ i', i' < i -> wE (f i') (g i') = true)) (fun i => n - i) 0 ?lg4 ?l14 ?l24 ?li4 ?lr4); (case' lg4 => rintro i _); (case' li4 => try (exact ⟨Nat.zero_le _, fun i hi => absurd hi (Nat.not_lt_zero _)⟩)); (case' lr4 => rintro i ⟨hi, hai⟩ KR hR4; simp only [bD, dD, hset, lk, if_true, if_false, xE, reduceIte, zN]))))
 | ((first | (with_reducible refine And.intro ?_ ?_) | (with_reducible refine Need.mk ?_)); focus (first | exact True.intro | omega))
 | (with_reducible refine aJ ?_)
 | ((with_reducible show bL _ _ _ _ _ _); first
 | ((with_reducible refine aM ?_ ?_) <;> (intro hc; (try simp only [zB, zC, reduceCtorEq] at hc); (try (exfalso; contradiction)))))
 | ((with_reducible show aW _ _ _ _ _ _ _ _ _ _); first
 | (refine aF (k := 55) YV (abx (f i) (g i) (hf i (by omega)) (hg i (by omega))) ?_ ?_))
 | ((with_reducible refine hR4 _ (i + 1) ?_); (try clear hR4 KR))
 | ((with_reducible refine Told.mk ?_); simp only [go_sem, reduceIte, reduceCtorEq, xA, xL, xD, xE, xM, xS, xB, bC] <;> ((((try simp (disch := omega) only [aY, Int.natCast_add, Int.cast_ofNat_Int, and_true, true_and, and_self]); (repeat' (first | omega | (with_reducible refine And.intro ?_ ?_) | (exact all_succ (by assumption) (by assumption)) )); done))))
 | ((fail_if_success (with_reducible show AW _ _ _ _)); simp (maxSteps := 2000000) only [go_sem, reduceIte, reduceCtorEq, xA, xL, xD, xE, xM, xS, xB, Tryz.f54, bC])
 | ((with_reducible refine hK _ ?_); clear hK K)
 | (with_reducible apply_assumption -exfalso only [*]))
  all_goals first | exact UY (by assumption) | exact SQ (by assumption) hc | exact Wj (by omega) (by assumption) hai | skip
theorem Xi (a b : ah) (ha : a.Ok) (hb : b.Ok) : aA Tryz.prog 19 [.agg [.g (.int .i64 a.oc), .g (.int .i64 a.nu), .g (.int .i64 a.kd), .g (.int .i64 a.fr), .g (.int .i64 a.un), .g (.int .i64 a.ca), .lst 3 a.n (eO a.p)], .agg [.g (.int .i64 b.oc), .g (.int .i64 b.nu), .g (.int .i64 b.kd), .g (.int .i64 b.fr), .g (.int .i64 b.un), .g (.int .i64 b.ca), .lst 3 b.n (eO b.p)]] (.t (.one (.g (.bool (qp a b))))) := by
  refine ak Tryz.func19 rfl (by rw [Tryz.ntmps19]; simp) ?_
  simp only [Tryz.ntmps19, zM, PT.tv, au, Nat.zero_add, Nat.reduceAdd]
  repeat' (first
 | ((with_reducible show AW _ _ _ _); first
 | (with_reducible first | refine aS (fun K hK => ?_) | refine aI ?_ | refine aT ?_ | refine aC ?_)
 | (first
 | (with_reducible first | refine aP 0 [0,1] ?_ | refine aP 1 [2,3] ?_ | refine aP 2 [] ?_ | refine aP 3 [2,3] ?_)))
 | ((first | (with_reducible refine And.intro ?_ ?_) | (with_reducible refine Need.mk ?_)); focus (first | exact True.intro | (simp; done)))
 | (with_reducible refine aJ ?_)
 | ((with_reducible show bL _ _ _ _ _ _); first
 | ((with_reducible refine aM ?_ ?_) <;> (intro hc; (try simp only [zB, zC, reduceCtorEq] at hc); (try (exfalso; contradiction)))))
 | ((with_reducible show aW _ _ _ _ _ _ _ _ _ _); first
 | (refine aF (k := 54) Nw (aiX _ _ _ _ ha.n hb.n ha.p hb.p) ?_ ?_))
 | ((fail_if_success (with_reducible show AW _ _ _ _)); simp (maxSteps := 2000000) only [go_sem, reduceIte, reduceCtorEq, xA, xL, xD, xE, xM, xS, xB, Tryz.f19, bC])
 | ((with_reducible refine hK _ ?_); clear hK K))
  all_goals first | exact adG (by assumption) | exact ady (by assumption) | skip
end Go.Proofs.YtcfechepbamhkaaGreat
set_option maxRecDepth 100000
set_option maxHeartbeats 4000000
namespace Go.Proofs.YtcfechepbamhkaaGreat
open Go.RowKit Go.Sea
open Nat renaming reduceAdd -> xA, reduceLT -> xL, reduceLeDiff -> xD, reduceEqDiff -> xE, reduceMul -> xM, reduceSub -> xS, reduceBEq -> xB
theorem jW : aK Tryz.prog 45 = true := by kernel_rfl
theorem aa1 : aK Tryz.prog 74 = true := by kernel_rfl
attribute [go_sem] jW aa1
theorem pq {f : aj} {ch : Int} (h : iR f ch = 0) : asV f ch = (jc f ch : Int) /\ jc f ch < f.k /\ (f.S (jc f ch)).ch = ch /\ dR f = true := by
  unfold iR at h
  split at h
  · rename_i hb
    split at h
    · cases h
    · rename_i hp
      have hlt : jc f ch < f.k := by
        unfold OT at hp
        split at hp
        · assumption
        · omega
      refine ⟨?_, hlt, of_decide_eq_true ((gZ (b := fun i => decide ((f.S i).ch = ch)) (k := f.k)).2 hlt), ?_⟩
      · unfold asV; rw [if_pos hb, if_neg hp]; unfold OT; rw [if_pos hlt]
      · unfold asB at hb; simp only [Bool.and_eq_true] at hb; exact hb.1
  · cases h
def gY (f : aj) (ch : Int) : bE := if iR f ch = 0 then f.S (jc f ch) else bH
theorem ad4 {f : aj} {ch : Int} (h : iR f ch ≠ 0) : gY f ch = bH := by unfold gY; rw [if_neg h]
theorem DT {f : aj} {ch : Int} (h : iR f ch = 0) : gY f ch = f.S (jc f ch) := by unfold gY; rw [if_pos h]
def R8 (s : bE) (N : Nat -> ah) : Nat -> List Int
  | 0 => []
  | i + 1 => if tX s (N i) = true then R8 s N i ++ [(N i).nu] else R8 s N i
theorem Gx (s : bE) (N : Nat -> ah) : R8 s N 0 = [] := rfl
theorem ah2 {s : bE} {N : Nat -> ah} {i : Nat} (h : tX s (N i) = true) : R8 s N (i + 1) = R8 s N i ++ [(N i).nu] := by show (if _ then _ else _) = _; rw [if_pos h]
theorem ajv {s : bE} {N : Nat -> ah} {i : Nat} (h : tX s (N i) = false) : R8 s N (i + 1) = R8 s N i := by show (if _ then _ else _) = _; rw [if_neg (by rw [h]; simp)]
theorem Xf (s : bE) (N : Nat -> ah) : ∀ i, (R8 s N i).length <= i
  | 0 => Nat.le_refl _
  | i + 1 => by
    have := Xf s N i
    show (if _ then _ else _ : List Int).length <= _
    split
    · simp; omega
    · omega
def wL (f : aj) (ch : Int) : List Int := if iR f ch = 0 then R8 (f.S (jc f ch)) f.N f.n else []
theorem amc {f : aj} {ch : Int} (h : iR f ch ≠ 0) : wL f ch = [] := by unfold wL; rw [if_neg h]
theorem amg {f : aj} {ch : Int} (h : iR f ch = 0) : wL f ch = R8 (f.S (jc f ch)) f.N f.n := by unfold wL; rw [if_pos h]
theorem alX {s : bE} {N : ah} (h : mU N s.ch = true /\ iD s.q s.dn N.nu = false) : tX s N = true := Vw h
theorem akb {s : bE} {N : ah} (h : mU N s.ch = false \/ iD s.q s.dn N.nu = true) : tX s N = false := by
  unfold tX; rcases h with h | h <;> rw [h] <;> simp
theorem aiT (f : aj) (hf : f.Ok) (ch : Int) (h0 : iR f ch ≠ 0) : aA Tryz.prog 21 [iw f, .one (.g (.int .i64 ch))] (.tup [.agg [.g (.int .i64 (gY f ch).ch), .g (.int .i64 (gY f ch).sc), .g (.int .i64 (gY f ch).ed), .g (.int .i64 (gY f ch).m.A), .g (.int .i64 (gY f ch).m.B), .g (.int .i64 (gY f ch).m.C), .g (.int .i64 (gY f ch).m.D), .g (.int .i64 (gY f ch).m.E), .g (.int .i64 (gY f ch).m.F), .g (.int .i64 (gY f ch).m.R), .g (.int .i64 (gY f ch).cap), .lst 1 (gY f ch).q (bC (gY f ch).dn), .lst 9 (gY f ch).n (dL (gY f ch).f)], .one (.g (.int .i64 (iR f ch)))]) := by
  refine ak Tryz.func21 rfl (by rw [Tryz.ntmps21]; simp) ?_
  simp only [Tryz.ntmps21, zM, PT.tv, au, Nat.zero_add, Nat.reduceAdd]
  repeat' (first
 | ((with_reducible show AW _ _ _ _); first
 | (with_reducible first | refine aS (fun K hK => ?_) | refine aT ?_ | refine aC ?_)
 | (first
 | (with_reducible first | refine aP 0 [0,1] ?_ | refine aP 1 [1,2,4] ?_ | refine aP 2 [2,4,6,7] ?_ | refine aP 3 [4,7] ?_)))
 | ((first | (with_reducible refine And.intro ?_ ?_) | (with_reducible refine Need.mk ?_)); focus (exact True.intro))
 | (with_reducible refine aJ ?_)
 | ((with_reducible show bL _ _ _ _ _ _); first
 | ((with_reducible refine aM ?_ ?_) <;> (intro hc; (try simp only [zB, zC, reduceCtorEq] at hc); (try (exfalso; contradiction)))))
 | ((with_reducible show aW _ _ _ _ _ _ _ _ _ _); first
 | (refine aF (k := 45) jW (oF f hf ch) ?_ ?_))
 | ((fail_if_success (with_reducible show AW _ _ _ _)); simp (maxSteps := 2000000) only [go_sem, reduceIte, reduceCtorEq, xA, xL, xD, xE, xM, xS, xB, Tryz.f21, bT, bX, bQ, bW, bP, bS, bY, bR, bU, bV, bg, bB, bn, bC, h0])
 | ((with_reducible refine hK _ ?_); clear hK K))
  all_goals (rw [ad4 h0]; (repeat' (first | exact rfl | (with_reducible refine And.intro ?_ ?_))))
theorem ajT (f : aj) (hf : f.Ok) (ch : Int) (h0 : iR f ch = 0) : aA Tryz.prog 21 [iw f, .one (.g (.int .i64 ch))] (.tup [.agg [.g (.int .i64 (gY f ch).ch), .g (.int .i64 (gY f ch).sc), .g (.int .i64 (gY f ch).ed), .g (.int .i64 (gY f ch).m.A), .g (.int .i64 (gY f ch).m.B), .g (.int .i64 (gY f ch).m.C), .g (.int .i64 (gY f ch).m.D), .g (.int .i64 (gY f ch).m.E), .g (.int .i64 (gY f ch).m.F), .g (.int .i64 (gY f ch).m.R), .g (.int .i64 (gY f ch).cap), .lst 1 (gY f ch).q (bC (gY f ch).dn), .lst 9 (gY f ch).n (dL (gY f ch).f)], .one (.g (.int .i64 (iR f ch)))]) := by
  have hn := hf.n
  have hk := hf.k
  have ha := pq h0
  have ha1 := ha.1
  have ha2 := ha.2.1
  have hn2 := (lW (iE ha.2.2.2).2.2).1
  refine ak Tryz.func21 rfl (by rw [Tryz.ntmps21]; simp) ?_
  simp only [Tryz.ntmps21, zM, PT.tv, au, Nat.zero_add, Nat.reduceAdd]
  repeat' (first
 | ((with_reducible show AW _ _ _ _); first
 | (with_reducible first | refine aS (fun K hK => ?_) | refine aI ?_ | refine aT ?_ | refine aC ?_)
 | (first
 | (with_reducible first | refine aP 0 [0,1] ?_ | refine aP 1 [1,2,4] ?_ | refine aP 2 [2,4,6,7] ?_ | refine aP 4 [2,4,6] ?_)))
 | ((first | (with_reducible refine And.intro ?_ ?_) | (with_reducible refine Need.mk ?_)); focus (first | exact True.intro | omega))
 | (with_reducible refine aJ ?_)
 | ((with_reducible show bL _ _ _ _ _ _); first
 | ((with_reducible refine aM ?_ ?_) <;> (intro hc; (try simp only [zB, zC, reduceCtorEq] at hc); (try (exfalso; contradiction)))))
 | ((with_reducible show aW _ _ _ _ _ _ _ _ _ _); first
 | (refine aF (k := 45) jW (oF f hf ch) ?_ ?_))
 | ((fail_if_success (with_reducible show AW _ _ _ _)); simp (maxSteps := 2000000) only [go_sem, reduceIte, reduceCtorEq, xA, xL, xD, xE, xM, xS, xB, Tryz.f21, bT, bX, bQ, bW, bP, bS, bY, bR, bU, bV, bg, bB, bn, bC, h0, ha1])
 | ((with_reducible refine hK _ ?_); clear hK K))
  all_goals (rw [DT h0]; (repeat' (first | exact rfl | (with_reducible refine And.intro ?_ ?_) | (intro i q hi hq; exact IV.bG _) | (intro i q hi hq; exact rfl))))
theorem IQ (f : aj) (hf : f.Ok) (ch : Int) : aA Tryz.prog 21 [iw f, .one (.g (.int .i64 ch))] (.tup [.agg [.g (.int .i64 (gY f ch).ch), .g (.int .i64 (gY f ch).sc), .g (.int .i64 (gY f ch).ed), .g (.int .i64 (gY f ch).m.A), .g (.int .i64 (gY f ch).m.B), .g (.int .i64 (gY f ch).m.C), .g (.int .i64 (gY f ch).m.D), .g (.int .i64 (gY f ch).m.E), .g (.int .i64 (gY f ch).m.F), .g (.int .i64 (gY f ch).m.R), .g (.int .i64 (gY f ch).cap), .lst 1 (gY f ch).q (bC (gY f ch).dn), .lst 9 (gY f ch).n (dL (gY f ch).f)], .one (.g (.int .i64 (iR f ch)))]) := by
  by_cases h0 : iR f ch = 0
  · exact ajT f hf ch h0
  · exact aiT f hf ch h0
theorem ak7 (f : aj) (hf : f.Ok) (ch : Int) (h0 : iR f ch ≠ 0) : aA Tryz.prog 13 [iw f, .one (.g (.int .i64 ch))] (.tup [.one (.lst 1 (wL f ch).length (bC (zL (wL f ch)))), .one (.g (.int .i64 (iR f ch)))]) := by
  refine ak Tryz.func13 rfl (by rw [Tryz.ntmps13]; simp) ?_
  simp only [Tryz.ntmps13, zM, PT.tv, au, Nat.zero_add, Nat.reduceAdd]
  repeat' (first
 | ((with_reducible show AW _ _ _ _); first
 | (with_reducible first | refine aS (fun K hK => ?_) | refine aT ?_ | refine aC ?_)
 | ((with_reducible first | refine aP 0 [0,1,27] ?_ | refine aP 1 [1,2,27] ?_ | refine aP 2 [2,6,7,27] ?_ | refine aP 3 [7] ?_)))
 | (((with_reducible refine Need.mk ?_)); focus (exact True.intro))
 | (with_reducible refine aJ ?_)
 | ((with_reducible show bL _ _ _ _ _ _); first
 | ((with_reducible refine aM ?_ ?_) <;> (intro hc; (try simp only [zB, zC, reduceCtorEq] at hc); (try (exfalso; contradiction)))))
 | ((with_reducible show aW _ _ _ _ _ _ _ _ _ _); first
 | (refine aF (k := 45) jW (oF f hf ch) ?_ ?_))
 | ((fail_if_success (with_reducible show AW _ _ _ _)); simp (maxSteps := 2000000) only [go_sem, reduceIte, reduceCtorEq, xA, xL, xD, xE, xM, xS, xB, Tryz.f13, bT, bX, bQ, bW, bP, bS, bY, bR, bU, bV, bg, bB, bn, bC, h0])
 | ((with_reducible refine hK _ ?_); clear hK K))
  all_goals (rw [amc h0]; (repeat' (exact rfl)))
theorem ah7 (f : aj) (hf : f.Ok) (ch : Int) (h0 : iR f ch = 0) : aA Tryz.prog 13 [iw f, .one (.g (.int .i64 ch))] (.tup [.one (.lst 1 (wL f ch).length (bC (zL (wL f ch)))), .one (.g (.int .i64 (iR f ch)))]) := by
  have hn := hf.n
  have hk := hf.k
  have ha := pq h0
  have ha1 := ha.1
  have ha2 := ha.2.1
  have hn2 := (lW (iE ha.2.2.2).2.2).1
  refine ak Tryz.func13 rfl (by rw [Tryz.ntmps13]; simp) ?_
  simp only [Tryz.ntmps13, zM, PT.tv, au, Nat.zero_add, Nat.reduceAdd]
  repeat' (first
 | ((refine oW ?_ ?_) <;> (intro hc; (try rw [hc]); (try simp only [zB, zC, reduceCtorEq] at hc); (try (exfalso; contradiction))))
 | ((with_reducible show AW _ _ _ _); first
 | (with_reducible first | refine aS (fun K hK => ?_) | refine aI ?_ | refine aX ?_ | refine aT ?_ | refine aC ?_ | refine aB ?_)
 | ((refine eu (k := 91) rfl Tryz.func91 rfl zK (by rw [Tryz.ntmps91]; simp) ?_ ?_ (fun l hlne A B hA hB => ?_)); (focus (simp (maxSteps := 2000000) only [go_sem, reduceIte, reduceCtorEq, xA, xL, xD, xE, xM, xS, xB, Tryz.f13, Tryz.f91, Tryz.f46, bT, bX, bQ, bW, bP, bS, bY, bR, bU, bV, bg, bB, bn, bC, h0, ha1, Gx, bF, fA, aZ, maxLen, List.length_append]; try exact True.intro)); (focus (simp (maxSteps := 2000000) only [go_sem, reduceIte, reduceCtorEq, xA, xL, xD, xE, xM, xS, xB, Tryz.f13, Tryz.f91, Tryz.f46, bT, bX, bQ, bW, bP, bS, bY, bR, bU, bV, bg, bB, bn, bC, h0, ha1, Gx, bF, fA, aZ, maxLen, List.length_append]; try exact True.intro)); simp only [Tryz.ntmps91, List.map_cons, List.map_nil, LV.tv, au, yV, Nat.zero_add, Nat.reduceAdd]; clear hlne)
 | (with_reducible refine tZ (by assumption) ?_)
 | (first
 | (with_reducible first | refine aP 0 [0,1,2,27] ?_ | refine aP (ops := #[⟨some 11, _, _, _, _, _⟩, _, _, _, _, _, _, _]) 1 [1,2,27] ?_ | refine aP (ops := #[⟨some 9, _, _, _, _, _⟩]) 1 [0,2,6,7,8] ?_ | refine aP (ops := #[⟨some 5, _, _, _, _, _⟩, _]) 1 [2,3] ?_ | refine aP (ops := #[⟨some 16, _, _, _, _, _⟩, _]) 2 [2,6,7,27] ?_ | refine aP (ops := #[⟨some 10, _, _, _, _, _⟩, _, _, _]) 2 [0,2,6,7,8] ?_ | refine aP (ops := #[⟨some 12, _, _, _, _, _⟩, _, _, _, _, _, _, _, _, _, _, _, _, _, _, _, _, _]) 3 [0,2,5,6,7,8] ?_ | refine aP (ops := #[⟨some 8, _, _, _, _, _⟩]) 4 [2,6,27] ?_ | refine aP (ops := #[⟨some 30, _, _, _, _, _⟩, _]) 4 [0,2,6,7,8] ?_)
 | ((with_reducible refine aR (c := Code.region 5 _ true) [2,6,8,27] ?_); (with_reducible refine lU 7 ?_ ?_ ?_ ?_ ?_); (focus kernel_rfl); (focus kernel_rfl); (focus kernel_rfl); (focus kernel_rfl))
 | (with_reducible first | refine aP 6 [8,27] ?_ | refine aP 7 [8,9,27] ?_ | refine wO (c := Code.region 8 _ false) [4] ?_ (aP 8 [8] ?_)))
 | ((with_reducible show AW _ (Code.loop _) _ _); first
 | ((with_reducible refine aL (c := (Code.seq (Code.region 1 _ _) _)) (ι := Nat) [0,2,6,7] (fun i => [(8, iA .i64 (i : Int))]) (fun i => [(1, [.slc 4 0 (R8 (f.S (jc f ch)) f.N i).length 1]), (4, dU (R8 (f.S (jc f ch)) f.N i))]) (fun i => i <= f.n) (fun i => f.n - i) 0 ?lg1 ?l11 ?l21 ?li1 ?lr1); (case' lg1 => rintro i _); (case' li1 => try (omega)); (case' lr1 => rintro i hi KR hR1; have oL := Xf (f.S (jc f ch)) f.N i; simp only [bD, dD, hset, lk, if_true, if_false, xE, reduceIte, zN, bT, bX, bQ, bW, bP, bS, bY, bR, bU, bV, bg, bB, bn, h0, ha1, Gx, bF, fA, aZ, maxLen, List.length_append]))))
 | ((first | (with_reducible refine And.intro ?_ ?_) | (with_reducible refine Need.mk ?_)); focus (first | exact ig _ | first | exact True.intro | omega | (intro _; (with_reducible assumption))))
 | (with_reducible refine aJ ?_)
 | ((with_reducible show bL _ _ _ _ _ _); first
 | ((with_reducible refine aM ?_ ?_) <;> (intro hc; (try simp only [zB, zC, reduceCtorEq] at hc); ((try (have e0 : f.n = i := (by omega)))); (try (exfalso; contradiction)))))
 | ((with_reducible show ∀ _ : AS -> Prop, _ -> _); intro K hK)
 | ((with_reducible refine And.intro ?_ ?_); focus (((with_reducible show zk _ _ _ _ = true); kernel_rfl)))
 | ((with_reducible show aW _ _ _ _ _ _ _ _ _ _); first
 | (refine aF (k := 45) jW (oF f hf ch) ?_ ?_)
 | (refine aF (k := 70) qC (BJ (f.N i) (f.S (jc f ch)).ch (hf.nn i (by omega))) ?_ ?_)
 | ((refine dw (k := 46) Tryz.func46 rfl tY (by rw [Tryz.ntmps46]; simp) ?_ ?_ (fun K hK => ?_)); (focus (exact True.intro)); (focus ((simp [jo]; done))); simp only [Tryz.ntmps46, List.map_cons, List.map_nil, List.nil_append, List.cons_append, List.append_nil, LV.tv, au, Nat.zero_add, Nat.reduceAdd]))
 | ((with_reducible show bM _ _ _ _ _ _ _ _ _ _); first
 | (refine aO (k := 92) uX (fun hg => Gg (f.S (jc f ch)).q (f.S (jc f ch)).dn (f.N i).nu (hf.s _ (by omega)).q) ?_ ?_))
 | ((with_reducible refine hR1 _ (i + 1) ?_); (try clear hR1 KR))
 | ((with_reducible refine Told.mk ?_); simp only [go_sem, reduceIte, reduceCtorEq, xA, xL, xD, xE, xM, xS, xB, bT, bX, bQ, bW, bP, bS, bY, bR, bU, bV, bg, bB, bn, bC, h0, ha1, Gx, bF, fA, aZ, maxLen, List.length_append] <;> ((((try simp (disch := omega) only [aY, Int.natCast_add, Int.cast_ofNat_Int, and_true, true_and, and_self]); (repeat' (first | omega | rfl | (with_reducible refine And.intro ?_ ?_) | ((first | rw [ah2 (alX (by assumption))] | rw [ajv (akb (by assumption))])) | ((exact jQ rfl (ig _))) | ((simp only [List.length_append, List.length_cons, List.length_nil, Nat.zero_add]; done)))); done))))
 | ((fail_if_success (with_reducible show AW _ _ _ _)); simp (maxSteps := 2000000) only [go_sem, reduceIte, reduceCtorEq, xA, xL, xD, xE, xM, xS, xB, Tryz.f13, Tryz.f91, Tryz.f46, bT, bX, bQ, bW, bP, bS, bY, bR, bU, bV, bg, bB, bn, bC, h0, ha1, Gx, bF, fA, aZ, maxLen, List.length_append])
 | ((with_reducible show aW _ _ _ _ _ _ (.yld _) _ _ _); (refine kU (by simp only [Eh, if_true]; exact rfl) ?_ (by simp) ?_ ?_ (fun K hK => ?_)); (focus (exact True.intro)); (focus (simp [mE])); (focus ((simp [jo]; done))); simp only [iT, gf, if_true, Nat.reduceAdd])
 | ((with_reducible refine hK _ ?_); clear hK K)
 | (with_reducible apply_assumption -exfalso only [*]))
  all_goals (have e0 : i = f.n := (by omega); subst e0; rw [amg h0]; (repeat' (first | exact rfl | (with_reducible refine And.intro ?_ ?_) | (intro i q hi hq; exact FH _ i q hi hq))))
theorem ado (f : aj) (hf : f.Ok) (ch : Int) : aA Tryz.prog 13 [iw f, .one (.g (.int .i64 ch))] (.tup [.one (.lst 1 (wL f ch).length (bC (zL (wL f ch)))), .one (.g (.int .i64 (iR f ch)))]) := by
  by_cases h0 : iR f ch = 0
  · exact ah7 f hf ch h0
  · exact ak7 f hf ch h0
end Go.Proofs.YtcfechepbamhkaaGreat
namespace Go.Proofs.YtcfechepbamhkaaGreat
open Go.RowKit Go.Sea Go.Lib
theorem Yb : Tryz.prog.underlying 37 = some (.slice 64) := by kernel_rfl
theorem ajr : (Tryz.prog.info? 64).map (fun i => (i.size, i.bytes, i.zero.map (·.cells.size))) = some (9, 104, some 9) := by kernel_rfl
set_option maxHeartbeats 4000000 in
set_option maxRecDepth 100000 in
set_option maxHeartbeats 2000000 in
theorem Lu (cap : Nat) (w : World) : Calls Tryz.prog 59 #[.slice none 0 cap] w fun e w' => e = .returned (.slice none 0 0) /\ w' = w := by
  have q : (binOp .eql 37 (.slice none 0 cap) (.slice none 0 0)).run Tryz.prog w = .ok (.bool true) w := run_eql_slice_nil w 37 64 none 0 cap Yb
  go_enter Tryz.func59, Tryz.ntmps59
  go_wp2
  go_ret
  exact ⟨rfl, rfl⟩
set_option maxHeartbeats 4000000 in
set_option maxRecDepth 100000 in
theorem yO (p : Addr) (n cap : Nat) (w w' : World) (u : Value) (h : ∀ ty, (Builtin.append_ #[37,37] ty #[.slice (some ⟨w.heap.size, 0, none⟩) 0 0, .slice (some p) n cap]).run Tryz.prog (w.alloc (.cells #[] 64)) = .ok u w') : Calls Tryz.prog 59 #[.slice (some p) n cap] w fun e w'' => e = .returned u /\ w'' = w' := by
  have q : (binOp .eql 37 (.slice (some p) n cap) (.slice none 0 0)).run Tryz.prog w = .ok (.bool false) w := run_eql_slice_nil w 37 64 (some p) n cap Yb
  go_enter Tryz.func59, Tryz.ntmps59
  go_wp2_with (at_builtin; refine Lib.wpList_append_run _ rfl _ _ _ _ rfl _ _ rfl rfl _ _ (h _) ?_)
  all_goals (go_ret; exact ⟨rfl, rfl⟩)
set_option maxHeartbeats 2000000 in
theorem SN (n : Nat) (f : Nat -> Nat -> IV) (hn : n <= 1000) : lQ Tryz.prog 59 [.one (.iv (.lst 9 n f))] (dZ f 9 n 0) (fun i => .t (.one (.slc i 0 n 9))) := by
  intro H i hH w0 Z0 J Z s a w vs R hs hv
  subst hs
  obtain ⟨vs⟩ := vs
  match vs, hv with
  | [v], ⟨hv, _⟩ =>
    have hv : Rd w Z v (.lst 9 n f) := hv
    have hlen : (dZ f 9 n 0).length = n * 9 := fT f 9 n 0
    have empty : ∀ (p : Addr) (cap : Nat), n = 0 -> v = .slice (some p) 0 cap -> Calls Tryz.prog 59 #[v] w fun e w' => ∃ v J' Z', e = .returned v /\ Rel w0 Z0 J' Z' { s with heap := hset s.heap i (dZ f 9 n 0) } a w' /\ bq w' J' Z' v (.t (.one (.slc i 0 n 9))) := fun p cap h0 ev => by
      subst h0; subst ev
      obtain ⟨ii, h33⟩ : ∃ ii, Tryz.prog.info? 64 = some ii := by
        have := ajr
        cases h : Tryz.prog.info? 64 with
        | none => rw [h] at this; cases this
        | some i => exact ⟨i, rfl⟩
      refine (yO p 0 cap w _ _ fun ty => gG Yb h33 _ _ 0 0 cap (Nat.le_refl _)).mono fun e w' ⟨he, hw⟩ => ?_
      subst hw
      have R1 := R.new (nid := i) (cs := []) (c := #[]) (e := 64) (H := hset s.heap i []) hH (aG _ _ _) (fun q hq => aH _ _ _ _ hq) (by simp [aQ])
      exact ⟨_, _, _, he, R1, Or.inr ⟨w.heap.size, 0, #[], 64, rfl, by simp [fM], Nat.zero_le _, Nat.zero_le _, heap_alloc_new w _, by simp⟩⟩
    have hv0 := hv
    cases hv with
    | nil p cap =>
      cases p with
      | none =>
        refine (Lu cap w).mono fun e w' ⟨he, hw⟩ => ?_
        subst hw
        exact ⟨_, J, Z, he, R.qj (nid := i) hH (by rw [aG]; rfl) (fun q hq => aH _ _ _ _ hq), Or.inl ⟨rfl, rfl⟩⟩
      | some p => exact empty p cap rfl rfl
    | lst b off _ cap _ _ X hz hc hm h1 h2 =>
      by_cases h0 : n = 0
      · exact empty ⟨b, off, none⟩ cap h0 (by rw [h0])
      · obtain ⟨hR1, G⟩ := R.call (mJ w (.cells #[] 64))
        have hv1 : cu (w.alloc (.cells #[] 64)) J (fun b => Z b \/ (w.heap.size <= b /\ b < (w.alloc (.cells #[] 64)).heap.size)) (.slice (some ⟨b, off, none⟩) n cap) (.one (.iv (.lst 9 n f))) := bK.grow G (CV.bZ (.iv (.lst 9 n f))) hv0
        obtain ⟨ii, z, t1, t2, t3, t4, t5, t6, t7⟩ := gH (P := Tryz.prog) (t := 37) (e := 64) (n := 9) (b := 104) (by kernel_rfl)
        rcases jR hR1 (size := 9) (m := n) (nd := True) (x := .one (.iv (.lst 9 n f))) (ns := dZ f 9 n 0) (by simp [wF]) trivial hv1 with ⟨h, _⟩ | ⟨hpos, b2, off2, cap2, news, e2, n1, n2, n3, n4⟩
        · exact absurd h h0
        · cases e2
          have hrun := fun ty => run_append_grow (P := Tryz.prog) (w.alloc (.cells #[] 64)) 37 ty 64 ii z t1 t2 t3 ⟨w.heap.size, 0, none⟩ 0 0 [] (by simp) (fun j v h => by simp at h) ⟨b, off, none⟩ n cap news (by rw [n1, t5]) n2 (by omega) (by omega) (by
            rw [t6]; exact growslice_fits (by omega) (by omega))
          simp only [Nat.zero_add] at hrun
          have hsz := grownCap_ge (w.alloc (.cells #[] 64)) n 0 64
          have hmx := grownCap_le_maxLen (w.alloc (.cells #[] 64)) n 0 64 (by unfold maxLen; omega)
          generalize grownCap (w.alloc (.cells #[] 64)) n 0 64 = G at hrun hsz hmx
          have hC : G * 9 <= (([] : List Value).toArray ++ news.toArray ++ Builtin.zeroCells z.cells (G - n)).size := by
            simp only [Array.size_append, size_zeroCells, t4, List.size_toArray, n1, List.length_nil]
            omega
          have hD : aQ (bK (w.alloc (.cells #[] 64)) J (fun b => Z b \/ (w.heap.size <= b /\ b < (w.alloc (.cells #[] 64)).heap.size))) ((([] : List Value).toArray ++ news.toArray ++ Builtin.zeroCells z.cells (G - n)).toList.take (dZ f 9 n 0).length) (dZ f 9 n 0) := by
            rw [Array.toList_append, Array.toList_append, List.nil_append, List.take_append_of_le_length (by simp; omega), List.take_of_length_le (by simp; omega)]
            exact n4
          generalize ([] : List Value).toArray ++ news.toArray ++ Builtin.zeroCells z.cells (G - n) = C at hrun hC hD
          have cl := yO ⟨b, off, none⟩ n cap w _ _ hrun
          have R2 := (hR1.drew).new (nid := i) (cs := dZ f 9 n 0) (c := C) (e := 64) (H := hset s.heap i (dZ f 9 n 0)) hH (aG _ _ _) (fun q hq => aH _ _ _ _ hq) (lD hD)
          have hA := heap_alloc_new (w.alloc (.cells #[] 64)).drew (.cells C 64)
          generalize hw1 : w.alloc (.cells #[] 64) = w1 at cl R2 hA
          refine cl.mono fun e w' ⟨he, hw⟩ => ?_
          subst hw
          exact ⟨_, _, _, he, R2, Or.inr ⟨_, _, _, 64, rfl, by simp [fM], hsz, hmx, hA, by rw [Nat.zero_add]; exact hC⟩⟩
end Go.Proofs.YtcfechepbamhkaaGreat
set_option maxRecDepth 100000
set_option maxHeartbeats 4000000
namespace Go.Proofs.YtcfechepbamhkaaGreat
open Go.RowKit Go.Sea
open Nat renaming reduceAdd -> xA, reduceLT -> xL, reduceLeDiff -> xD, reduceEqDiff -> xE, reduceMul -> xM, reduceSub -> xS, reduceBEq -> xB
theorem sZ : aK Tryz.prog 22 = true := by kernel_rfl
theorem Oh : aK Tryz.prog 59 = true := by kernel_rfl
theorem aaJ : aK Tryz.prog 78 = true := by kernel_rfl
attribute [go_sem] sZ Oh aaJ
theorem Uu (f : Nat -> Nat -> IV) (E n : Nat) (i o : Nat) (hi : i < n) (ho : o < E) : (GX ((dZ f E n 0).getD (i * E + o) .any)).eqv (f i o) := by
  rw [List.getD, oQ _ _ _ _ _ _ hi ho, Nat.zero_add]
  exact IV.bG _
def pV (x : Nat × (Nat -> aN)) (N : ah) (ch : Int) : Nat × (Nat -> aN) := if iU N ch = true /\ yL x.1 x.2 (prt N ch).k (prt N ch).o = 0 then (Dp x.1 x.2 (prt N ch).k (prt N ch).o, Yv x.1 x.2 (prt N ch).k (prt N ch).o) else x
def uF (f : aj) (ch : Int) (l : List Int) : Nat -> Nat × (Nat -> aN)
  | 0 => ((f.S (jc f ch)).n, (f.S (jc f ch)).f)
  | i + 1 => pV (uF f ch l i) (f.N (zL l i).toNat) ch
theorem VF (f : aj) (ch : Int) (l : List Int) : uF f ch l 0 = ((f.S (jc f ch)).n, (f.S (jc f ch)).f) := rfl
theorem adF {f : aj} {ch : Int} {l : List Int} {i : Nat} (h : iU (f.N (zL l i).toNat) ch = true) (h2 : yL (uF f ch l i).1 (uF f ch l i).2 (prt (f.N (zL l i).toNat) ch).k (prt (f.N (zL l i).toNat) ch).o = 0) : (uF f ch l (i + 1)).1 = Dp (uF f ch l i).1 (uF f ch l i).2 (prt (f.N (zL l i).toNat) ch).k (prt (f.N (zL l i).toNat) ch).o /\ (uF f ch l (i + 1)).2 = Yv (uF f ch l i).1 (uF f ch l i).2 (prt (f.N (zL l i).toNat) ch).k (prt (f.N (zL l i).toNat) ch).o := by
  show (pV _ _ _).1 = _ /\ (pV _ _ _).2 = _
  unfold pV; rw [if_pos ⟨h, h2⟩]; exact ⟨rfl, rfl⟩
theorem adY {f : aj} {ch : Int} {l : List Int} {i : Nat} (h : iU (f.N (zL l i).toNat) ch = false \/ yL (uF f ch l i).1 (uF f ch l i).2 (prt (f.N (zL l i).toNat) ch).k (prt (f.N (zL l i).toNat) ch).o ≠ 0) : uF f ch l (i + 1) = uF f ch l i := by
  show pV _ _ _ = _
  unfold pV; rw [if_neg]
  rintro ⟨a, b⟩
  rcases h with h | h
  · rw [h] at a; cases a
  · exact h b
theorem adh {l : List Int} {i : Nat} (h : i < l.length) : zL l i ∈ l := by
  unfold zL; rw [List.getD, List.getElem?_eq_getElem h]; exact List.getElem_mem h
theorem Db {n : Nat} {f : Nat -> aN} {k : Nat} {o : Nat -> eG} (h : yL n f k o = 0) : Good (jf (LF f n) o k) /\ Dp n f k o = (jf (LF f n) o k).length := by
  unfold yL at h
  split at h
  · rename_i hv
    have hv2 := hv
    unfold Lr at hv2
    simp only [Bool.and_eq_true] at hv2
    have hG := j4 (EZ hv2.1) (of_decide_eq_true hv2.2).2 k (Nat.le_refl k)
    refine ⟨hG, ?_⟩
    split at h
    · rename_i hj
      exact absurd h (of_decide_eq_true ((gZ (b := fun j => decide ((ni (jf (LF f n) o j) (o j)).1 ≠ 0)) (k := k)).2 hj))
    · rename_i hj
      unfold Dp; rw [if_pos hv, if_neg hj]
  · cases h
theorem abA {n : Nat} {f : Nat -> aN} {k : Nat} {o : Nat -> eG} (h : yL n f k o = 0) : Dp n f k o <= 9223372036854775807 /\ ∀ j, j < Dp n f k o -> (Yv n f k o j).Ok := by
  have hg := Db h
  refine ⟨by have := hg.1.n; rw [hg.2]; omega, fun j hj => ?_⟩
  rw [hg.2] at hj
  unfold Yv
  exact EO (hg.1.f _ (uE hj))
theorem ab5 {N : ah} {ch : Int} (h : iU N ch = true) : Rb N ch = (iV N ch : Int) := by unfold Rb; rw [if_pos (of_decide_eq_true h)]
theorem ZP {N : ah} {ch : Int} (h : iU N ch = false) : Rb N ch = -1 := by unfold Rb; rw [if_neg (of_decide_eq_false h)]
theorem aaK {N : ah} {ch : Int} (h : iU N ch = false) : iY N ch = DL := by unfold iY; rw [if_neg (by rw [h]; simp)]
theorem Ob (n : Nat) (N : Nat -> ah) (t : Int) : (iW n N t).length <= n := by
  unfold iW; split
  · exact Em n N t n
  · exact Nat.zero_le _
theorem Cc {s : bE} (h : gK s = true) : s.n <= 300 := by
  unfold gK at h; simp only [Bool.and_eq_true] at h
  exact (of_decide_eq_true h.2).1
theorem Ep {f : aj} {ch : Int} {l : List Int} (hs : (f.S (jc f ch)).Ok) : ∀ i, (uF f ch l i).1 <= 9223372036854775807 /\ ∀ j, j < (uF f ch l i).1 -> ((uF f ch l i).2 j).Ok
  | 0 => ⟨hs.n, hs.f⟩
  | i + 1 => by
    have ih := Ep hs (ch := ch) (l := l) i
    show (pV _ _ _).1 <= _ /\ ∀ j, j < (pV _ _ _).1 -> ((pV _ _ _).2 j).Ok
    unfold pV
    split
    · rename_i h; exact abA h.2
    · exact ih
def nS (f : aj) (ch t : Int) : Int := if iR f ch = 1 \/ ¬ (0 <= t /\ t <= 10000000) then 1 else iR f ch
def qh (f : aj) (ch t : Int) : Nat := if nS f ch t = 0 then (uF f ch (iW f.n f.N t) (iW f.n f.N t).length).1 else 0
def Dq (f : aj) (ch t : Int) : Nat -> aN := (uF f ch (iW f.n f.N t) (iW f.n f.N t).length).2
theorem rJ {f : aj} {ch : Int} (h : iR f ch ≠ 1) : dR f = true := by
  unfold iR at h
  split at h
  · rename_i hb; unfold asB at hb; simp only [Bool.and_eq_true] at hb; exact hb.1
  · exact absurd rfl h
theorem CP {f : aj} {t : Int} (h : dR f = true) : KX f.n f.N t = if 0 <= t /\ t <= 10000000 then 0 else 1 := by
  have hn := lW (iE h).2.2
  unfold KX acB
  by_cases ht : 0 <= t /\ t <= 10000000
  · rw [if_pos ht, if_pos (decide_eq_true ⟨hn.1, ht, fun i hi => (hn.2 i hi).1⟩)]
  · rw [if_neg ht, if_neg]
    intro g; exact ht (of_decide_eq_true g).2.1
theorem ajI {f : aj} {ch t : Int} (h : iR f ch = 1 \/ ¬ (0 <= t /\ t <= 10000000)) : nS f ch t = 1 /\ qh f ch t = 0 := by
  have e : nS f ch t = 1 := by unfold nS; rw [if_pos h]
  exact ⟨e, by unfold qh; rw [if_neg (by omega)]⟩
theorem akx {f : aj} {ch t : Int} (h : iR f ch ≠ 1) (ht : 0 <= t /\ t <= 10000000) (h0 : iR f ch ≠ 0) : nS f ch t = iR f ch /\ qh f ch t = 0 := by
  have e : nS f ch t = iR f ch := by unfold nS; rw [if_neg (by rintro (g | g); exact h g; exact g ht)]
  exact ⟨e, by unfold qh; rw [if_neg (by omega)]⟩
theorem ah1 {f : aj} {ch t : Int} (ht : 0 <= t /\ t <= 10000000) (h0 : iR f ch = 0) : nS f ch t = 0 /\ qh f ch t = (uF f ch (iW f.n f.N t) (iW f.n f.N t).length).1 := by
  have e : nS f ch t = 0 := by unfold nS; rw [if_neg (by rintro (g | g); omega; exact g ht)]; exact h0
  exact ⟨e, by unfold qh; rw [if_pos e]⟩
theorem Fg {n : Nat} {N : Nat -> ah} {t : Int} : ∀ (i : Nat) x, x ∈ sQ n N t i -> 0 <= x /\ x < i
  | 0, x, h => by cases h
  | i + 1, x, h => by
    have h' : x ∈ (if xR n N t i = true then sQ n N t i ++ [(i : Int)] else sQ n N t i) := h
    split at h'
    · rcases List.mem_append.1 h' with g | g
      · have := Fg i x g; omega
      · simp only [List.mem_singleton] at g; omega
    · have := Fg i x h'; omega
theorem Um {n : Nat} {N : Nat -> ah} {t : Int} {i : Nat} (h : i < (iW n N t).length) : 0 <= zL (iW n N t) i /\ zL (iW n N t) i < n := by
  have hm := adh h
  generalize zL (iW n N t) i = x at hm
  unfold iW at hm
  split at hm
  · exact Fg n x hm
  · cases hm
theorem ahO (f : aj) (hf : f.Ok) (ch t : Int) (h1 : iR f ch = 1 \/ ¬ (0 <= t /\ t <= 10000000)) : aA Tryz.prog 20 [iw f, .one (.g (.int .i64 ch)), .one (.g (.int .i64 t))] (.tup [.one (.lst 9 (qh f ch t) (dL (Dq f ch t))), .one (.g (.int .i64 (nS f ch t)))]) := by
  refine ak Tryz.func20 rfl (by rw [Tryz.ntmps20]; simp) ?_
  simp only [Tryz.ntmps20, zM, PT.tv, au, Nat.zero_add, Nat.reduceAdd]
  repeat' (first
 | ((with_reducible show AW _ _ _ _); first
 | (with_reducible first | refine aS (fun K hK => ?_) | refine aT ?_ | refine aC ?_)
 | (first
 | (with_reducible first | refine aP 0 [0,1,2] ?_ | refine aP 1 [1,2,3] ?_ | refine aP 2 [1,2,3,8,9] ?_ | refine aP 3 [] ?_)))
 | ((first | (with_reducible refine And.intro ?_ ?_) | (with_reducible refine Need.mk ?_)); focus (first | exact True.intro | (simp; done)))
 | (with_reducible refine aJ ?_)
 | ((with_reducible show bL _ _ _ _ _ _); first
 | ((with_reducible refine aM ?_ ?_) <;> (intro hc; (try simp only [zB, zC, reduceCtorEq] at hc); (try (exfalso; omega)))))
 | ((with_reducible show aW _ _ _ _ _ _ _ _ _ _); first
 | (refine aF (k := 45) jW (oF f hf ch) ?_ ?_))
 | ((fail_if_success (with_reducible show AW _ _ _ _)); simp (maxSteps := 2000000) only [go_sem, reduceIte, reduceCtorEq, xA, xL, xD, xE, xM, xS, xB, Tryz.f20, bT, bX, bQ, bW, bP, bS, bY, bR, bU, bV, bg, bB, bn, bC])
 | ((with_reducible refine hK _ ?_); clear hK K))
  all_goals first
    | (have e := ajI (f := f) (ch := ch) (t := t) h1; rw [e.1, e.2]; (repeat' (first | exact rfl | (with_reducible refine And.intro ?_ ?_))); done)
    | (exfalso; refine h1.elim (fun q => hc.1 q) (fun q => ?_); have e := CP (t := t) (rJ hc.1); rw [if_neg q] at e; omega)
    | (exfalso; omega)
    | skip
theorem ahP (f : aj) (hf : f.Ok) (ch t : Int) (h1 : iR f ch ≠ 1) (ht : 0 <= t /\ t <= 10000000) (h0 : iR f ch ≠ 0) : aA Tryz.prog 20 [iw f, .one (.g (.int .i64 ch)), .one (.g (.int .i64 t))] (.tup [.one (.lst 9 (qh f ch t) (dL (Dq f ch t))), .one (.g (.int .i64 (nS f ch t)))]) := by
  have e5 : KX f.n f.N t = 0 := by rw [CP (rJ h1), if_pos ht]
  refine ak Tryz.func20 rfl (by rw [Tryz.ntmps20]; simp) ?_
  simp only [Tryz.ntmps20, zM, PT.tv, au, Nat.zero_add, Nat.reduceAdd]
  repeat' (first
 | ((with_reducible show AW _ _ _ _); first
 | (with_reducible first | refine aS (fun K hK => ?_) | refine aI ?_ | refine aT ?_ | refine aC ?_)
 | (first
 | (with_reducible first | refine aP 0 [0,1,2] ?_ | refine aP 1 [1,2,3] ?_ | refine aP 2 [1,2,3,8,9] ?_ | refine aP 4 [1,2,3,8,9] ?_ | refine aP 5 [9] ?_)))
 | ((first | (with_reducible refine And.intro ?_ ?_) | (with_reducible refine Need.mk ?_)); focus (first | exact True.intro | (simp; done)))
 | (with_reducible refine aJ ?_)
 | ((with_reducible show bL _ _ _ _ _ _); first
 | ((with_reducible refine aM ?_ ?_) <;> (intro hc; (try simp only [zB, zC, reduceCtorEq] at hc); (try (exfalso; first | contradiction | omega)))))
 | ((with_reducible show aW _ _ _ _ _ _ _ _ _ _); first
 | (refine aF (k := 45) jW (oF f hf ch) ?_ ?_))
 | ((fail_if_success (with_reducible show AW _ _ _ _)); simp (maxSteps := 2000000) only [go_sem, reduceIte, reduceCtorEq, xA, xL, xD, xE, xM, xS, xB, Tryz.f20, bT, bX, bQ, bW, bP, bS, bY, bR, bU, bV, bg, bB, bn, bC, h1, h0, e5])
 | ((with_reducible refine hK _ ?_); clear hK K))
  all_goals ((have e := akx (f := f) (ch := ch) (t := t) h1 ht h0; rw [e.1, e.2]; (repeat' (first | exact rfl | (with_reducible refine And.intro ?_ ?_))); done))
theorem ajm (f : aj) (hf : f.Ok) (ch t : Int) (ht : 0 <= t /\ t <= 10000000) (h0 : iR f ch = 0) : aA Tryz.prog 20 [iw f, .one (.g (.int .i64 ch)), .one (.g (.int .i64 t))] (.tup [.one (.lst 9 (qh f ch t) (dL (Dq f ch t))), .one (.g (.int .i64 (nS f ch t)))]) := by
  have ha := pq h0
  have ha1 := ha.1
  have ha2 := ha.2.1
  have hsok := hf.s _ ha2
  have hxo := fun i => Ep (f := f) (ch := ch) (l := (iW f.n f.N t)) hsok i
  have e5 : KX f.n f.N t = 0 := by rw [CP ha.2.2.2, if_pos ht]
  have mk1 : True := trivial
  have hpv : True := trivial
  have hps : True := trivial
  have hn := hf.n
  have hk := hf.k
  have hn2 := (lW (iE ha.2.2.2).2.2).1
  have hal : (iW f.n f.N t).length <= f.n := Ob f.n f.N t
  have hs3 : (f.S (jc f ch)).n <= 300 := Cc ((iE ha.2.2.2).2.1 _ ha2).1
  have hb : True := trivial
  refine ak Tryz.func20 rfl (by rw [Tryz.ntmps20]; simp) ?_
  simp only [Tryz.ntmps20, zM, PT.tv, au, Nat.zero_add, Nat.reduceAdd]
  repeat' (first
 | ((with_reducible show AW _ _ _ _); first
 | (with_reducible first | refine aS (fun K hK => ?_) | refine aI ?_ | refine aX ?_ | refine aT ?_ | refine aC ?_ | refine aB ?_)
 | (first
 | (with_reducible first | refine aP 0 [0,1,2] ?_ | refine aP 1 [1,2,3] ?_ | refine aP 2 [1,2,3,8,9] ?_ | refine aP 4 [1,2,3,8,9] ?_ | refine aP 6 [1,2,3,8] ?_ | refine aP 7 [1,3,8,9,10] ?_ | refine aP 9 [1,3,8,10] ?_ | refine wO (c := Code.region 10 _ false) [1] ?_ (aP 10 [1,3,10,11] ?_) | refine aP 11 [1,3,11,55,56,57] ?_ | refine aP 12 [1,3,11,55,56,57] ?_ | refine aP 13 [1,3,11,13,55,56,57] ?_ | refine aP 14 [1,3,11,14,15,55,56,57] ?_ | refine aP 15 [1,3,11,14,55,56,57] ?_ | refine aP 16 [1,3,11,16,18,55,56,57] ?_ | refine aP 17 [1,3,16,55,56,57] ?_ | refine aP 18 [1,3,11,55,56,57] ?_ | refine aP 19 [11] ?_))
 | ((with_reducible show AW _ (Code.loop _) _ _); first
 | ((with_reducible refine aL (c := (Code.seq (Code.region 11 _ _) _)) (ι := Nat) [1,3,55,56] (fun i => [(11, .t (.one (.iv (.lst 9 (uF f ch (iW f.n f.N t) i).1 (dL (uF f ch (iW f.n f.N t) i).2))))), (57, iA .i64 (i : Int))]) (fun i => []) (fun i => i <= (iW f.n f.N t).length) (fun i => (iW f.n f.N t).length - i) 0 ?lg11 ?l111 ?l211 ?li11 ?lr11); (case' lg11 => rintro i _); (case' li11 => try (omega)); (case' lr11 => rintro i hi KR hR11; simp only [bD, dD, hset, lk, if_true, if_false, xE, reduceIte, zN, bT, bX, bQ, bW, bP, bS, bY, bR, bU, bV, bg, bB, bn, h0, e5, ha1, hpv, hps, hb, VF, Go.Sea.fT]))))
 | ((first | (with_reducible refine And.intro ?_ ?_) | (with_reducible refine Need.mk ?_)); focus (first | exact ED _ _ _ _ | first | exact True.intro | (with_reducible assumption) | omega | (simp; done)))
 | (with_reducible refine aJ ?_)
 | ((with_reducible show bL _ _ _ _ _ _); first
 | ((with_reducible refine aM ?_ ?_) <;> (intro hc; (try simp only [zB, zC, reduceCtorEq] at hc); ((try (clear mk1; have hx := Um (n := f.n) (N := f.N) (t := t) (i := i) (by omega); have hNo := hf.nn (zL (iW f.n f.N t) i).toNat (by omega); have hNn := hNo.n; cases hb : iU (f.N (zL (iW f.n f.N t) i).toNat) ch; all_goals (first | (have hpv : Rb (f.N (zL (iW f.n f.N t) i).toNat) ch = (iV (f.N (zL (iW f.n f.N t) i).toNat) ch : Int) := ab5 hb; have hpl := of_decide_eq_true hb; have hPo := hNo.p _ hpl; have hps : iY (f.N (zL (iW f.n f.N t) i).toNat) ch = ((f.N (zL (iW f.n f.N t) i).toNat).p (iV (f.N (zL (iW f.n f.N t) i).toNat) ch)) := FV hb) | (have hpv : Rb (f.N (zL (iW f.n f.N t) i).toNat) ch = -1 := ZP hb; have hps : iY (f.N (zL (iW f.n f.N t) i).toNat) ch = DL := aaK hb))))); (try (exfalso; first | contradiction | omega)))))
 | ((with_reducible show aW _ _ _ _ _ _ _ _ _ _); first
 | (refine aF (k := 45) jW (oF f hf ch) ?_ ?_)
 | (refine aF (k := 22) sZ (MQ f.n f.N hf.n hf.nn t) ?_ ?_)
 | (refine aF (k := 60) zx (E5 (f.N (zL (iW f.n f.N t) i).toNat) ch hNo) ?_ ?_)
 | (refine aF (k := 61) FC (Mh (uF f ch (iW f.n f.N t) i).1 (uF f ch (iW f.n f.N t) i).2 ((f.N (zL (iW f.n f.N t) i).toNat).p (iV (f.N (zL (iW f.n f.N t) i).toNat) ch)).k ((f.N (zL (iW f.n f.N t) i).toNat).p (iV (f.N (zL (iW f.n f.N t) i).toNat) ch)).o (hxo i).1 (hxo i).2 hPo.k hPo.o) ?_ ?_)
 | (refine nP (k := 59) Oh (z8 (SN (f.S (jc f ch)).n (dL (f.S (jc f ch)).f) (Nat.le_trans hs3 (by decide))) (i := 1) rfl) ?_ ?_))
 | ((with_reducible refine hR11 _ (i + 1) ?_); (try clear hR11 KR))
 | ((with_reducible refine Told.mk ?_); simp only [go_sem, reduceIte, reduceCtorEq, xA, xL, xD, xE, xM, xS, xB, bT, bX, bQ, bW, bP, bS, bY, bR, bU, bV, bg, bB, bn, bC, h0, e5, ha1, hpv, hps, hb, VF, Go.Sea.fT] <;> ((((try simp (disch := omega) only [aY, Int.natCast_add, Int.cast_ofNat_Int, and_true, true_and, and_self]); (repeat' (first | omega | (with_reducible refine And.intro ?_ ?_) | ((exact Or.inr ⟨(adF hb (by assumption)).1.symm, fun i o hi ho => by rw [(adF hb (by assumption)).2]; exact IV.bG _⟩)) | ((rw [adY (Or.inl hb)]; exact Or.inl rfl)) | ((rw [adY (Or.inr (by assumption))]; exact Or.inl rfl)) | ((exact Or.inr (fun i o hi ho => Uu _ _ _ i o hi ho))))); done))))
 | ((fail_if_success (with_reducible show AW _ _ _ _)); simp (maxSteps := 2000000) only [go_sem, reduceIte, reduceCtorEq, xA, xL, xD, xE, xM, xS, xB, Tryz.f20, bT, bX, bQ, bW, bP, bS, bY, bR, bU, bV, bg, bB, bn, bC, h0, e5, ha1, hpv, hps, hb, VF, Go.Sea.fT])
 | ((with_reducible refine hK _ ?_); clear hK K)
 | (with_reducible apply_assumption -exfalso only [*]))
  all_goals (have e := ah1 ht h0; have e0 : i = (iW f.n f.N t).length := (by omega); subst e0; rw [e.1, e.2]; unfold Dq; (repeat' (first | exact rfl | (with_reducible refine And.intro ?_ ?_) | (intro i q hi hq; exact IV.bG _))))
theorem Jj (f : aj) (hf : f.Ok) (ch t : Int) : aA Tryz.prog 20 [iw f, .one (.g (.int .i64 ch)), .one (.g (.int .i64 t))] (.tup [.one (.lst 9 (qh f ch t) (dL (Dq f ch t))), .one (.g (.int .i64 (nS f ch t)))]) := by
  by_cases h1 : iR f ch = 1 \/ ¬ (0 <= t /\ t <= 10000000)
  · exact ahO f hf ch t h1
  · have h2 := not_or.1 h1
    have ht : 0 <= t /\ t <= 10000000 := Classical.byContradiction h2.2
    by_cases h0 : iR f ch = 0
    · exact ajm f hf ch t ht h0
    · exact ahP f hf ch t h2.1 ht h0
end Go.Proofs.YtcfechepbamhkaaGreat
namespace Go.Proofs.YtcfechepbamhkaaGreat
open Go.RowKit Go.Sea
open Nat renaming reduceAdd -> xA, reduceLT -> xL, reduceLeDiff -> xD, reduceEqDiff -> xE, reduceMul -> xM, reduceSub -> xS, reduceBEq -> xB
theorem Ox : aK Tryz.prog 24 = true := by kernel_rfl
theorem ME : aK Tryz.prog 50 = true := by kernel_rfl
attribute [go_sem] Ox ME
def Jy (f g : aj) : Bool := decide (f.k = g.k /\ f.n = g.n /\ (∀ i, i < f.k -> seqB (f.S i) (g.S i) = true) /\ ∀ i, i < f.n -> qp (f.N i) (g.N i) = true)
theorem VX {f g : aj} (h : (f.k : Int) ≠ g.k \/ (f.n : Int) ≠ g.n) : false = Jy f g := (decide_eq_false fun q => by have := q.1; have := q.2.1; omega).symm
theorem aey {f g : aj} {i : Nat} (hi : (i : Int) < f.k) (h : seqB (f.S i) (g.S i) = false) : false = Jy f g := (decide_eq_false fun q => by have := q.2.2.1 i (by omega); rw [h] at this; cases this).symm
theorem afU {f g : aj} {i : Nat} (hi : (i : Int) < f.n) (h : qp (f.N i) (g.N i) = false) : false = Jy f g := (decide_eq_false fun q => by have := q.2.2.2 i (by omega); rw [h] at this; cases this).symm
theorem ag2 {f g : aj} {j : Nat} (h : (f.k : Int) = g.k /\ (f.n : Int) = g.n) (hi : (f.n : Int) <= j) (b : ∀ i, i < f.k -> seqB (f.S i) (g.S i) = true) (a : ∀ i, i < j -> qp (f.N i) (g.N i) = true) : true = Jy f g := (decide_eq_true ⟨by omega, by omega, b, fun i hj => a i (by omega)⟩).symm
set_option maxRecDepth 100000 in
set_option maxHeartbeats 4000000 in
theorem adq (f : aj) (hf : f.Ok) (g : aj) (hg : g.Ok) : aA Tryz.prog 17 [iw f, iw g] (.t (.one (.g (.bool (Jy f g))))) := by
  have hfn := hf.n
  have hfk := hf.k
  have hgn := hg.n
  have hgk := hg.k
  refine ak Tryz.func17 rfl (by rw [Tryz.ntmps17]; simp) ?_
  simp only [Tryz.ntmps17, zM, PT.tv, au, Nat.zero_add, Nat.reduceAdd]
  repeat' (first
 | ((with_reducible show AW _ _ _ _); first
 | (with_reducible first | refine aS (fun K hK => ?_) | refine aI ?_ | refine aX ?_ | refine aT ?_ | refine aC ?_ | refine aB ?_)
 | (first
 | (with_reducible first | refine aP 0 [0,1] ?_ | refine aP 1 [2,3] ?_ | refine aP 2 [] ?_ | refine aP 3 [2,3] ?_ | refine aP 4 [2,3,5] ?_ | refine aP 5 [2,3,5] ?_)
 | ((with_reducible refine aR (c := Code.region 6 _ true) [2,3,5] ?_); (with_reducible refine aD ?_ ?_ ?_ ?_); (focus kernel_rfl); (focus kernel_rfl); (focus kernel_rfl))
 | (with_reducible first | refine aP 7 [] ?_ | refine aP 8 [2,3] ?_ | refine aP 9 [2,3,6] ?_ | refine aP 10 [2,3,6] ?_)
 | ((with_reducible refine aR (c := Code.region 11 _ true) [2,3,6] ?_); (with_reducible refine aD ?_ ?_ ?_ ?_); (focus kernel_rfl); (focus kernel_rfl); (focus kernel_rfl))
 | (with_reducible first | refine aP 12 [] ?_ | refine aP 13 [] ?_))
 | ((with_reducible show AW _ (Code.loop _) _ _); first
 | ((with_reducible refine aL (c := (Code.seq (Code.seq (Code.region 4 _ _) _) _)) (ι := Nat) [2,3] (fun i => [(5, iA .i64 (i : Int))]) (fun i => []) (fun i => i <= f.k /\ (∀ j, j < i -> seqB (f.S j) (g.S j) = true)) (fun i => f.k - i) 0 ?lg4 ?l14 ?l24 ?li4 ?lr4); (case' lg4 => rintro i _); (case' li4 => try (exact ⟨Nat.zero_le _, fun i hi => absurd hi (Nat.not_lt_zero _)⟩)); (case' lr4 => rintro i ⟨hi, hai⟩ KR hR4; simp only [bD, dD, hset, lk, if_true, if_false, xE, reduceIte, zN, bT, bX, bQ, bW, bP, bS, bY, bR, bU, bV, bg, bB, bn]))
 | ((with_reducible refine aL (c := (Code.seq (Code.seq (Code.region 9 _ _) _) _)) (ι := Nat) [2,3] (fun j => [(6, iA .i64 (j : Int))]) (fun j => []) (fun j => j <= f.n /\ (∀ i, i < j -> qp (f.N i) (g.N i) = true)) (fun j => f.n - j) 0 ?lg9 ?l19 ?l29 ?li9 ?lr9); (case' lg9 => rintro j _); (case' li9 => try (exact ⟨Nat.zero_le _, fun i hi => absurd hi (Nat.not_lt_zero _)⟩)); (case' lr9 => rintro j ⟨hj, haj⟩ KR hR9; simp only [bD, dD, hset, lk, if_true, if_false, xE, reduceIte, zN, bT, bX, bQ, bW, bP, bS, bY, bR, bU, bV, bg, bB, bn]))))
 | ((first | (with_reducible refine And.intro ?_ ?_) | (with_reducible refine Need.mk ?_)); focus (first | exact True.intro | omega | (simp; done)))
 | (with_reducible refine aJ ?_)
 | ((with_reducible show bL _ _ _ _ _ _); first
 | ((with_reducible refine aM ?_ ?_) <;> (intro hc; (try simp only [zB, zC, reduceCtorEq] at hc); (try (exfalso; contradiction)))))
 | ((with_reducible refine And.intro ?_ ?_); focus ((with_reducible show gV _ _ _ = true); kernel_rfl))
 | ((with_reducible show eT _ _ _ _ _ _ _ _ _ _ _ _ _); first
 | (refine dh (k := 24) Ox (ZX (f.S i) (g.S i) (hf.s i (by omega)) (hg.s i (by omega))) ?_ ?_)
 | (refine dh (k := 50) ME (aio (f.N j) (g.N j) (hf.nn j (by omega)) (hg.nn j (by omega))) ?_ ?_))
 | ((with_reducible refine hR4 _ (i + 1) ?_); (try clear hR4 KR))
 | ((with_reducible refine hR9 _ (j + 1) ?_); (try clear hR9 KR))
 | ((with_reducible refine Told.mk ?_); simp only [go_sem, reduceIte, reduceCtorEq, xA, xL, xD, xE, xM, xS, xB, bT, bX, bQ, bW, bP, bS, bY, bR, bU, bV, bg, bB, bn, bC] <;> ((((try simp (disch := omega) only [aY, Int.natCast_add, Int.cast_ofNat_Int, and_true, true_and, and_self]); (repeat' (first | omega | (with_reducible refine And.intro ?_ ?_) | (exact all_succ (by assumption) (by assumption)))); done))))
 | ((fail_if_success (with_reducible show AW _ _ _ _)); simp (maxSteps := 2000000) only [go_sem, reduceIte, reduceCtorEq, xA, xL, xD, xE, xM, xS, xB, Tryz.f17, bT, bX, bQ, bW, bP, bS, bY, bR, bU, bV, bg, bB, bn, bC])
 | ((with_reducible refine hK _ ?_); clear hK K)
 | (with_reducible apply_assumption -exfalso only [*]))
  all_goals first | exact VX (by assumption) | exact VX (by omega) | exact aey (by assumption) (by assumption) | exact afU (by assumption) (by assumption) | exact ag2 (by omega) (by assumption) (fun i hi => (by assumption : ∀ j, j < _ -> seqB (f.S j) (g.S j) = true) i (by omega)) (by assumption) | skip
end Go.Proofs.YtcfechepbamhkaaGreat
set_option maxRecDepth 100000
set_option maxHeartbeats 4000000
namespace Go.Proofs.YtcfechepbamhkaaGreat
open Go.RowKit Go.Sea
open Nat renaming reduceAdd -> xA, reduceLT -> xL, reduceLeDiff -> xD, reduceEqDiff -> xE, reduceMul -> xM, reduceSub -> xS, reduceBEq -> xB
theorem NV : aK Tryz.prog 44 = true := by kernel_rfl
attribute [go_sem] NV
theorem ajx {f : aj} (h : dR f = true) : f.k <= 1000 := Nat.le_trans (iE h).1 (by decide)
theorem aeM (f : aj) (hf : f.Ok) (hk : f.k <= 1000) (F G : Nat -> Nat -> IV) (h : ∀ i o, i < f.k -> o < 13 -> (F i o).eqv (ji f.S i o)) (h' : ∀ i o, i < f.n -> o < 7 -> (G i o).eqv (fB f.N i o)) : aA Tryz.prog 44 [.agg [.lst 13 f.k F, .lst 7 f.n G]] (.t (iw (JL f))) :=
  (aep f hf hk).eqv (args' := [.agg [.lst 13 f.k F, .lst 7 f.n G]]) ⟨⟨⟨rfl, rfl, h⟩, ⟨rfl, rfl, h'⟩, trivial⟩, trivial⟩ (PV.bG _)
end Go.Proofs.YtcfechepbamhkaaGreat
set_option maxRecDepth 100000
namespace Go.Sea
open Go.RowKit Go.Sea
def afR (ops : Array Oper) (m i : Nat) : Bool := !(m.testBit i) && match ops[i]? with
  | some o => o.after.toList.all fun e => !Region.binds .any e || m.testBit e.on
  | none => false
def ajY (ops : Array Oper) (Ms : List Nat) (Es : List (Nat × Nat × Nat)) : Bool := Ms.contains 0 && Ms.all fun m => (List.range ops.size).all fun i => !(afR ops m i) || (Es.contains (m, i, m ||| 2 ^ i) && Ms.contains (m ||| 2 ^ i))
def alL (ops : Array Oper) (Ms : List Nat) (mf : Nat) : Bool := Ms.all fun m => ((List.range ops.size).any fun i => !(m.testBit i)) || m == mf
theorem uf {w0 : World} {Z0 : Fr} {s s' : AS} {a : Act} {w : World} {L : List Nat} (h : Leaf ⟨bD s.env L, s.heap, s.N, s.gh, s.lp⟩ s') (R : lK w0 Z0 s a w) : lK w0 Z0 s' a w := by
  obtain ⟨rfl⟩ := h
  obtain ⟨J, Z, R⟩ := R
  exact ⟨J, Z, R.nodef, R.size, R.below, R.zfrom, R.zlt, R.jlt, R.inj, R.hole, R.blk, fun t => by
    rcases Av s.env t L with e | e
    · show bq _ _ _ _ (lk (bD s.env L) t); rw [e]; trivial
    · show bq _ _ _ _ (lk (bD s.env L) t); rw [e]; exact R.slots t, R.ghost, R.loops, R.lnd, R.ro⟩
end Go.Sea
namespace Go.Proofs.YtcfechepbamhkaaGreat
open Go.RowKit Go.Sea
def c7 (s : ah) : List CV := [.iv (.g (.int .i64 s.oc)), .iv (.g (.int .i64 s.nu)), .iv (.g (.int .i64 s.kd)), .iv (.g (.int .i64 s.fr)), .iv (.g (.int .i64 s.un)), .iv (.g (.int .i64 s.ca)), .iv (.lst 3 s.n (eO s.p))]
def gQ (l : List ah) : List CV := l.flatMap c7
theorem Gb (l : List ah) : ∀ c, c ∈ gQ l -> jM c := by
  intro c hc
  obtain ⟨s, _, h⟩ := List.mem_flatMap.1 hc
  simp only [c7, List.mem_cons, List.not_mem_nil, or_false] at h
  rcases h with rfl | rfl | rfl | rfl | rfl | rfl | rfl <;> trivial
theorem jh (l : List ah) : (gQ l).length = l.length * 7 := by
  induction l with
  | nil => rfl
  | cons s l ih => show (c7 s ++ gQ l).length = _; rw [List.length_append, ih, List.length_cons]; show 7 + _ = _; omega
theorem l8 (l : List ah) (i : Nat) : List.map (CV.cB i) (gQ l) = gQ l := jK i (Gb l)
theorem lV (l : List ah) (i : Nat) (cs : List CV) : List.map (oP i cs) (gQ l) = gQ l := Fb _ (Gb l)
theorem Bw : ∀ (l : List ah) (i o : Nat), i < l.length -> o < 7 -> (gQ l).getD (i * 7 + o) .any = (c7 (l.getD i QO)).getD o .any
  | [], i, _, hi, _ => absurd hi (Nat.not_lt_zero i)
  | s :: l, 0, o, _, ho => by
    show (c7 s ++ gQ l).getD (0 * 7 + o) .any = _
    rw [Nat.zero_mul, Nat.zero_add, List.getD, List.getElem?_append_left (by show o < 7; exact ho)]; rfl
  | s :: l, i + 1, o, hi, ho => by
    show (c7 s ++ gQ l).getD ((i + 1) * 7 + o) .any = _
    have e : (i + 1) * 7 + o = 7 + (i * 7 + o) := by omega
    rw [e, List.getD, List.getElem?_append_right (by show 7 <= 7 + (i * 7 + o); omega)]
    show ((gQ l)[7 + (i * 7 + o) - 7]?).getD .any = _
    rw [Nat.add_sub_cancel_left]
    exact Bw l i o (by simpa using hi) ho
set_option maxRecDepth 100000 in
theorem Sm (l : List ah) : ∀ i o, i < l.length -> o < 7 -> (GX ((gQ l).getD (i * 7 + o) .any)).eqv (ab7 (l.getD i QO) o) := fun i o hi ho => by
  rw [Bw l i o hi ho]
  rcases (by omega : o = 0 \/ o = 1 \/ o = 2 \/ o = 3 \/ o = 4 \/ o = 5 \/ o = 6) with rfl | rfl | rfl | rfl | rfl | rfl | rfl <;> exact IV.bG _
def iN (f : aj) (M : ah) : Nat := jw (fun i => decide (M.nu <= (f.N i).nu)) f.n
def za (f : aj) (j : Nat) (M : ah) (i : Nat) : ah := if i < j then f.N i else if i = j then M else f.N (i - 1)
def jZ (f : aj) (M : ah) : Int := if dR f = true /\ gM M = true then (if 0 < f.n /\ (f.N 0).oc ≠ M.oc then 12 else if iN f M < f.n /\ (f.N (iN f M)).nu = M.nu then (if qp (f.N (iN f M)) M = true then 5 else 18) else if f.n = 200 then 2 else 0) else 1
def YT (f : aj) (M : ah) : aj := ⟨f.k, f.S, f.n + 1, za f (iN f M) M⟩
def vX (f : aj) (M : ah) : aj := if jZ f M = 0 then JL (YT f M) else oo
def nL (f : aj) (i : Nat) : List ah := (List.range i).map f.N
theorem vO {f : aj} {M : ah} (h : jZ f M ≠ 0) : vX f M = oo := by unfold vX; rw [if_neg h]
theorem ak1 {f : aj} {M : ah} (h : dR f = false \/ gM M = false) : jZ f M = 1 := by
  unfold jZ; rw [if_neg]; rintro ⟨a, b⟩; rcases h with h | h
  · rw [h] at a; cases a
  · rw [h] at b; cases b
theorem ai2 {f : aj} {M : ah} (h : dR f = true /\ gM M = true) (h2 : 0 < f.n /\ (f.N 0).oc ≠ M.oc) : jZ f M = 12 := by unfold jZ; rw [if_pos h, if_pos h2]
theorem adW {f : aj} {M : ah} (h : dR f = true /\ gM M = true) (h2 : ¬ (0 < f.n /\ (f.N 0).oc ≠ M.oc)) (h3 : iN f M < f.n /\ (f.N (iN f M)).nu = M.nu) (h4 : qp (f.N (iN f M)) M = true) : jZ f M = 5 := by unfold jZ; rw [if_pos h, if_neg h2, if_pos h3, if_pos h4]
theorem aj2 {f : aj} {M : ah} (h : dR f = true /\ gM M = true) (h2 : ¬ (0 < f.n /\ (f.N 0).oc ≠ M.oc)) (h3 : iN f M < f.n /\ (f.N (iN f M)).nu = M.nu) (h4 : qp (f.N (iN f M)) M = false) : jZ f M = 18 := by unfold jZ; rw [if_pos h, if_neg h2, if_pos h3, if_neg (by rw [h4]; simp)]
theorem MU {f : aj} {M : ah} (h : dR f = true /\ gM M = true) (h2 : ¬ (0 < f.n /\ (f.N 0).oc ≠ M.oc)) (h3 : ¬ (iN f M < f.n /\ (f.N (iN f M)).nu = M.nu)) : jZ f M = if f.n = 200 then 2 else 0 := by unfold jZ; rw [if_pos h, if_neg h2, if_neg h3]
theorem mZ (f : aj) (M : ah) : iN f M <= f.n := qy _ _
end Go.Proofs.YtcfechepbamhkaaGreat
