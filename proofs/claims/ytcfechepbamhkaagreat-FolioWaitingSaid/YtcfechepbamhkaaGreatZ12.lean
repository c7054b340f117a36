/- Part 12 of 17: contracts of functions and plain laws for the root text. No condition. -/
import Derived.Test.YtcfechepbamhkaaGreatZ01
import Derived.Test.YtcfechepbamhkaaGreatZ02
import Derived.Test.YtcfechepbamhkaaGreatZ03
import Derived.Test.YtcfechepbamhkaaGreatZ04
import Derived.Test.YtcfechepbamhkaaGreatZ05
import Derived.Test.YtcfechepbamhkaaGreatZ06
import Derived.Test.YtcfechepbamhkaaGreatZ07
import Derived.Test.YtcfechepbamhkaaGreatZ08
import Derived.Test.YtcfechepbamhkaaGreatZ09
import Derived.Test.YtcfechepbamhkaaGreatZ10
import Derived.Test.YtcfechepbamhkaaGreatZ11
import Derived.Test.YtcfechepbamhkaaGreatRows
import Derived.WalkKit
import Derived.ProofKit
import Derived.Lib.SmallJoins
import Derived.Deep.Strs
import Derived.Deep.SlicePairs
set_option linter.unusedVariables false
set_option linter.unusedSimpArgs false
set_option maxRecDepth 100000
set_option maxHeartbeats 4000000
namespace Go.Proofs.YtcfechepbamhkaaGreat
open Go.RowKit Go.Sea
open Nat renaming reduceAdd -> xA, reduceLT -> xL, reduceLeDiff -> xD, reduceEqDiff -> xE, reduceMul -> xM, reduceSub -> xS, reduceBEq -> xB
theorem alQ : Ho Tryz.prog 22 = none := by kernel_rfl
theorem Fp : aN Tryz.prog 15 = true := by kernel_rfl
theorem qB : aN Tryz.prog 26 = true := by kernel_rfl
theorem aew : aN Tryz.prog 27 = true := by kernel_rfl
theorem NT : aN Tryz.prog 40 = true := by kernel_rfl
theorem zh : aN Tryz.prog 60 = true := by kernel_rfl
theorem abE : aN Tryz.prog 81 = true := by kernel_rfl
theorem NI : aN Tryz.prog 89 = true := by kernel_rfl
theorem acj : aN Tryz.prog 90 = true := by kernel_rfl
theorem anb : xH Tryz.prog 22 = some true := by kernel_rfl
theorem aep : dF Tryz.prog 25 0 = some 0 := by kernel_rfl
theorem aeL : dF Tryz.prog 25 1 = some 1 := by kernel_rfl
theorem alF : qX Tryz.prog 22 = some (13, 136, 39) := by kernel_rfl
theorem aj7 : lQ Tryz.prog 22 = some (false, 1) := by kernel_rfl
theorem afB : lQ Tryz.prog 23 = some (false, 1) := by kernel_rfl
theorem ak4 : lQ Tryz.prog 25 = some (true, 2) := by kernel_rfl
attribute [go_sem] alQ Fp qB aew NT zh abE NI anb aep aeL alF aj7 afB ak4
def aa3 : aH -> Nat -> IV
  | s, 0 => .g (.int .i64 s.ch)
  | s, 1 => .g (.int .i64 s.sc)
  | s, 2 => .g (.int .i64 s.ed)
  | s, 3 => .g (.int .i64 s.m.A)
  | s, 4 => .g (.int .i64 s.m.B)
  | s, 5 => .g (.int .i64 s.m.C)
  | s, 6 => .g (.int .i64 s.m.D)
  | s, 7 => .g (.int .i64 s.m.E)
  | s, 8 => .g (.int .i64 s.m.F)
  | s, 9 => .g (.int .i64 s.m.R)
  | s, 10 => .g (.int .i64 s.cap)
  | s, 11 => .lst 1 s.q (bn s.dn)
  | s, _ + 12 => .lst 9 s.n (dN s.f)
def jq (s : Nat -> aH) (i c : Nat) : IV := aa3 (s i) c
theorem bR (s : Nat -> aH) (i : Nat) : jq s i 0 = .g (.int .i64 (s i).ch) := rfl
theorem bP (s : Nat -> aH) (i : Nat) : jq s i 1 = .g (.int .i64 (s i).sc) := rfl
theorem bV (s : Nat -> aH) (i : Nat) : jq s i 2 = .g (.int .i64 (s i).ed) := rfl
theorem bU (s : Nat -> aH) (i : Nat) : jq s i 3 = .g (.int .i64 (s i).m.A) := rfl
theorem bX (s : Nat -> aH) (i : Nat) : jq s i 4 = .g (.int .i64 (s i).m.B) := rfl
theorem bY (s : Nat -> aH) (i : Nat) : jq s i 5 = .g (.int .i64 (s i).m.C) := rfl
theorem bQ (s : Nat -> aH) (i : Nat) : jq s i 6 = .g (.int .i64 (s i).m.D) := rfl
theorem bS (s : Nat -> aH) (i : Nat) : jq s i 7 = .g (.int .i64 (s i).m.E) := rfl
theorem bW (s : Nat -> aH) (i : Nat) : jq s i 8 = .g (.int .i64 (s i).m.F) := rfl
theorem bT (s : Nat -> aH) (i : Nat) : jq s i 9 = .g (.int .i64 (s i).m.R) := rfl
theorem bC (s : Nat -> aH) (i : Nat) : jq s i 10 = .g (.int .i64 (s i).cap) := rfl
theorem bB (s : Nat -> aH) (i : Nat) : jq s i 11 = .lst 1 (s i).q (bn (s i).dn) := rfl
theorem bF (s : Nat -> aH) (i : Nat) : jq s i 12 = .lst 9 (s i).n (dN (s i).f) := rfl
structure aj where
  k : Nat
  S : Nat -> aH
  n : Nat
  N : Nat -> ah
structure aj.Ok (f : aj) : Prop where
  k : f.k <= 9223372036854775807
  s : ∀ i, i < f.k -> (f.S i).Ok
  n : f.n <= 9223372036854775807
  nn : ∀ i, i < f.n -> (f.N i).Ok
def jJ (f : aj) : PT := .agg [.lst 13 f.k (jq f.S), .lst 7 f.n (eP f.N)]
attribute [go_sem] jJ
def uT : aj := ⟨0, fun _ => bq, 0, fun _ => Ta⟩
theorem OQ : uT.Ok := ⟨by simp [uT], fun i h => absurd h (Nat.not_lt_zero _), by simp [uT], fun i h => absurd h (Nat.not_lt_zero _)⟩
def F9 (S : Nat -> aH) (i : Nat) : Prop := gU (S i) = true /\ (0 < i -> (S (i - 1)).ch < (S i).ch)
instance (S : Nat -> aH) (i : Nat) : Decidable (F9 S i) := by unfold F9; infer_instance
def fK (f : aj) : Bool := decide (f.k <= 20 /\ ∀ i, i < f.k -> F9 f.S i) && uw f.n f.N
def aff (N : Nat -> ah) : Nat -> Int
  | 0 => 0
  | i + 1 => w64 (aff N i + Ye (N i) (N i).n)
def iM (f : aj) : Bool := decide (f.k <= 4 /\ f.n <= 12 /\ (∀ i, i < f.k -> (f.S i).n <= 12) /\ aff f.N f.n <= 100)
theorem ajh {f : aj} (h : (f.k : Int) > 4 \/ (f.n : Int) > 12) : false = iM f := (decide_eq_false fun g => by omega).symm
theorem aiy {f : aj} {i : Nat} (hi : (i : Int) < f.k) (h : ((f.S i).n : Int) > 12) : false = iM f := (decide_eq_false fun g => by have := g.2.2.1 i (by omega); omega).symm
theorem agV {f : aj} {i j : Nat} (h : (f.k : Int) <= 4 /\ (f.n : Int) <= 12) (hi : (f.k : Int) <= i) (g : ∀ j, j < i -> (f.S j).n <= 12) (hj : (f.n : Int) <= j) (hj2 : j <= f.n) : decide (aff f.N j <= 100) = iM f := by
  obtain rfl : j = f.n := by omega
  unfold iM
  rw [Bool.eq_iff_iff, decide_eq_true_eq, decide_eq_true_eq]
  exact ⟨fun q => ⟨by omega, by omega, fun i hi => g i (by omega), q⟩, fun q => q.2.2.2⟩
theorem Yt {f : aj} (h : (f.k : Int) > 20 \/ uw f.n f.N = false) : false = fK f := by
  unfold fK
  rcases h with h | h
  · rw [decide_eq_false (fun g => by omega)]; rfl
  · rw [h, Bool.and_false]
theorem afQ {f : aj} {i : Nat} (hi : (i : Int) < f.k) (h : gU (f.S i) = false \/ (i : Int) > 0 /\ (f.S i).ch <= (f.S (i - 1)).ch) : false = fK f := by
  unfold fK
  rw [decide_eq_false (fun g => ?_)]; rfl
  have g1 := g.2 i (by omega)
  rcases h with h | h
  · rw [g1.1] at h; cases h
  · have := g1.2 (by omega); omega
theorem alp {f : aj} {i : Nat} (h : (f.k : Int) <= 20) (hn : uw f.n f.N = true) (hi : (f.k : Int) <= i) (g : ∀ j, j < i -> F9 f.S j) : true = fK f := by
  unfold fK; rw [hn, decide_eq_true ⟨by omega, fun j hj => g j (by omega)⟩]; rfl
theorem iB {f : aj} (h : fK f = true) : f.k <= 20 /\ (∀ i, i < f.k -> F9 f.S i) /\ uw f.n f.N = true := by
  unfold fK at h; simp only [Bool.and_eq_true, decide_eq_true_eq] at h; exact ⟨h.1.1, h.1.2, h.2⟩
theorem ajo {s : aH} (h : gU s = true) : 1 <= s.ch /\ s.ch <= 1000 := by
  unfold gU at h; simp only [Bool.and_eq_true, decide_eq_true_eq] at h; omega
theorem ajX {f : aj} {i : Nat} (hi : (i : Int) < f.k) (g : ∀ j, j < i -> F9 f.S j) (h : gU (f.S i) = false \/ (f.S i).ch <= oH (fun j => (f.S j).ch) i) : false = fK f := by
  by_cases hv : gU (f.S i) = true
  · rcases h with h | h
    · rw [hv] at h; cases h
    · refine afQ hi (Or.inr ?_)
      unfold oH at h
      split at h
      · have := ajo hv; omega
      · exact ⟨by omega, h⟩
  · exact afQ hi (Or.inl (by simpa using hv))
theorem X7 {S : Nat -> aH} {i : Nat} (h : gU (S i) = true /\ oH (fun j => (S j).ch) i < (S i).ch) : F9 S i := ⟨h.1, fun h0 => by
  have := h.2; unfold oH at this; rw [if_neg (by omega)] at this; exact this⟩
theorem aiu {f : aj} {i : Nat} (hi : (i : Int) < f.n) (h : (gD (f.N i) = false \/ (f.N i).nu <= oH (fun j => (f.N j).nu) i) \/ (f.N i).oc ≠ (f.N 0).oc) : false = fK f := by
  refine Yt (Or.inr ?_)
  by_cases hv : gD (f.N i) = true
  · refine (K5 hi ?_).symm
    rcases h with (h | h) | h
    · exact Or.inl (Or.inl h)
    · right
      unfold oH at h
      split at h
      · have := YD hv; omega
      · exact ⟨by omega, h⟩
    · exact Or.inl (Or.inr h)
  · exact (K5 hi (Or.inl (Or.inl (by simpa using hv)))).symm
theorem WB {N : Nat -> ah} {i : Nat} (h : (gD (N i) = true /\ oH (fun j => (N j).nu) i < (N i).nu) /\ (N i).oc = (N 0).oc) : AZ N i := ⟨h.1.1, h.2, fun h0 => by
  have := h.1.2; unfold oH at this; rw [if_neg (by omega)] at this; exact this⟩
theorem ajO {f : aj} {i j : Nat} (h : (f.k : Int) <= 20 /\ (f.n : Int) <= 200) (hi : (f.k : Int) <= i) (g : ∀ j, j < i -> F9 f.S j) (hj : (f.n : Int) <= j) (g2 : ∀ i, i < j -> AZ f.N i) : true = fK f :=
  alp h.1 (decide_eq_true ⟨by omega, fun i hi => g2 i (by omega)⟩) hi g
theorem agH {f : aj} (h : (f.k : Int) > 20 \/ (f.n : Int) > 200) : false = fK f := by
  rcases h with h | h
  · exact Yt (Or.inl h)
  · exact Yt (Or.inr (decide_eq_false fun g => by omega))
def jA (f : aj) (ch : Int) : Nat := j3 (fun i => decide ((f.S i).ch = ch)) f.k
def Oa (f : aj) (ch : Int) : Int := if jA f ch < f.k then (jA f ch : Int) else -1
theorem anQ {f : aj} {ch : Int} {i : Nat} (hi : (i : Int) < f.k) (h : (f.S i).ch = ch) (g : ∀ j, j < i -> (f.S j).ch ≠ ch) : (i : Int) = Oa f ch := by
  have e : jA f ch = i := lC (b := fun i => decide ((f.S i).ch = ch)) (decide_eq_true h) (fun j hj => decide_eq_false (g j hj)) _ (by omega)
  unfold Oa; rw [e, if_pos (by omega)]
theorem aoz {f : aj} {ch : Int} {i : Nat} (hi : (f.k : Int) <= i) (g : ∀ j, j < i -> (f.S j).ch ≠ ch) : -1 = Oa f ch := by
  have e : jA f ch = f.k := sF _ fun j hj => decide_eq_false (g j (by omega))
  unfold Oa; rw [e, if_neg (by omega)]
def asB (f : aj) (ch : Int) : Bool := fK f && decide (1 <= ch /\ ch <= 1000)
def jL (f : aj) (ch : Int) : Int := if asB f ch = true then (if Oa f ch < 0 then 4 else 0) else 1
def asV (f : aj) (ch : Int) : Int := if asB f ch = true then (if Oa f ch < 0 then 0 else Oa f ch) else 0
theorem agf {f : aj} {ch : Int} (h : (fK f = false \/ ch < 1) \/ ch > 1000) : asV f ch = 0 /\ jL f ch = 1 := by
  have e : asB f ch = false := by
    unfold asB
    rcases h with (h | h) | h
    · rw [h]; rfl
    · rw [decide_eq_false (fun g => by omega), Bool.and_false]
    · rw [decide_eq_false (fun g => by omega), Bool.and_false]
  unfold asV jL; rw [e]; exact ⟨rfl, rfl⟩
theorem aa5 {f : aj} {ch : Int} (h : (fK f = true /\ 1 <= ch) /\ ch <= 1000) : asB f ch = true := by unfold asB; rw [h.1.1, decide_eq_true ⟨h.1.2, h.2⟩]; rfl
theorem anx {f : aj} {ch : Int} (h : (fK f = true /\ 1 <= ch) /\ ch <= 1000) (h2 : Oa f ch < 0) : asV f ch = 0 /\ jL f ch = 4 := by unfold asV jL; rw [if_pos (aa5 h), if_pos (aa5 h), if_pos h2, if_pos h2]; exact ⟨rfl, rfl⟩
theorem anv {f : aj} {ch : Int} (h : (fK f = true /\ 1 <= ch) /\ ch <= 1000) (h2 : 0 <= Oa f ch) : asV f ch = Oa f ch /\ jL f ch = 0 := by unfold asV jL; rw [if_pos (aa5 h), if_pos (aa5 h), if_neg (by omega), if_neg (by omega)]; exact ⟨rfl, rfl⟩
def nJ (s : aH) (N : ah) : Bool := kD N s.ch && !gq s.q s.dn N.nu
theorem ahY (N : ah) (ho : N.Ok) : aA Tryz.prog 40 [.agg [.g (.int .i64 N.oc), .g (.int .i64 N.nu), .g (.int .i64 N.kd), .g (.int .i64 N.fr), .g (.int .i64 N.un), .g (.int .i64 N.ca), .lst 3 N.n (dK N.p)]] (.t (.one (.g (.int .i64 (Ye N N.n))))) := by
  have hnn := ho.n
  refine ak Tryz.func40 rfl (by rw [Tryz.ntmps40]; simp) ?_
  simp only [Tryz.ntmps40, zM, PT.tv, au, Nat.zero_add, Nat.reduceAdd]
  repeat' (first
 | ((with_reducible show AW _ _ _ _); first
 | (with_reducible first | refine aS (fun K hK => ?_) | refine aI ?_ | refine aX ?_ | refine aT ?_ | refine aC ?_ | refine aB ?_)
 | (first
 | (with_reducible first | refine aP 0 [0] ?_ | refine aP 1 [1] ?_ | refine aP 2 [1,3] ?_ | refine aP 3 [1,3,4] ?_ | refine aP 4 [1,3,4] ?_ | refine aP 5 [1,3,4] ?_ | refine aP 6 [1,3,4,5] ?_ | refine aP 7 [1,3,4,5] ?_ | refine aP 8 [1,3,4,5,6] ?_ | refine aP 9 [1,3,4,5,6] ?_)
 | ((with_reducible refine aR (c := Code.region 10 _ true) [1,3,4,5,6] ?_); (with_reducible refine aD ?_ ?_ ?_ ?_); (focus kernel_rfl); (focus kernel_rfl); (focus kernel_rfl))
 | (with_reducible refine aP 11 [3] ?_))
 | ((with_reducible show AW _ (Code.loop _) _ _); first
 | ((with_reducible refine aL (c := (Code.seq (Code.seq (Code.region 3 _ _) _) _)) (ι := Nat) [1] (fun i => [(3, iA .i64 (Ye N i)), (4, iA .i64 (i : Int))]) (fun i => []) (fun i => i <= N.n) (fun i => N.n - i) 0 ?lg3 ?l13 ?l23 ?li3 ?lr3); (case' lg3 => rintro i _); (case' li3 => try (omega)); (case' lr3 => rintro i hi KR hR3; simp only [bI, dI, hset, lk, if_true, if_false, xE, reduceIte, zN]))
 | ((with_reducible refine aL (c := (Code.seq (Code.seq (Code.region 8 _ _) _) _)) (ι := Nat) [1,4,5] (fun j => [(3, iA .i64 (ah8 (N.p i) (w64 (w64 (Ye N i + ((N.p i).q : Int)) + ((N.p i).k : Int))) j)), (6, iA .i64 (j : Int))]) (fun j => []) (fun j => j <= (N.p i).k) (fun j => (N.p i).k - j) 0 ?lg8 ?l18 ?l28 ?li8 ?lr8); (case' lg8 => rintro j _); (case' li8 => try (omega)); (case' lr8 => rintro j hj KR hR8; simp only [bI, dI, hset, lk, if_true, if_false, xE, reduceIte, zN]))))
 | (((with_reducible refine And.intro ?_ ?_)); focus (omega))
 | (with_reducible refine aJ ?_)
 | ((with_reducible show bL _ _ _ _ _ _); first
 | ((with_reducible refine aM ?_ ?_) <;> (intro hc; (try simp only [zB, zC, reduceCtorEq] at hc); ((try (have hoi := ho.p i (by omega); have hq1 := hoi.q; have hk1 := hoi.k; have hf1 := fun q h => (hoi.o q h).n; have hf2 := fun q h => (hoi.o q h).m)); (try (have e0 : i = N.n := (by omega); subst e0)); (try (have e0 : j = (N.p i).k := (by omega); subst e0))); (try (exfalso; contradiction)))))
 | ((with_reducible refine And.intro ?_ ?_); focus ((with_reducible show gW _ _ _ = true); kernel_rfl))
 | ((with_reducible refine hR3 _ (i + 1) ?_); (try clear hR3 KR))
 | ((with_reducible refine hR8 _ (j + 1) ?_); (try clear hR8 KR))
 | ((with_reducible refine Told.mk ?_); simp only [go_sem, reduceIte, reduceCtorEq, xA, xL, xD, xE, xM, xS, xB, bn] <;> ((((try simp (disch := omega) only [aV, Int.natCast_add, Int.cast_ofNat_Int, and_true, true_and, and_self]); (repeat' (first | omega | rfl | (with_reducible refine And.intro ?_ ?_))); done))))
 | ((fail_if_success (with_reducible show AW _ _ _ _)); simp (maxSteps := 2000000) only [go_sem, reduceIte, reduceCtorEq, xA, xL, xD, xE, xM, xS, xB, Tryz.f40, bn])
 | ((with_reducible refine hK _ ?_); clear hK K)
 | (with_reducible apply_assumption -exfalso only [*]))
theorem jH (f : aj) (hf : f.Ok) : aA Tryz.prog 11 [jJ f] (.t (.one (.g (.bool (iM f))))) := by
  have hk := hf.k
  have hn := hf.n
  refine ak Tryz.func11 rfl (by rw [Tryz.ntmps11]; simp) ?_
  simp only [Tryz.ntmps11, zM, PT.tv, au, Nat.zero_add, Nat.reduceAdd]
  repeat' (first
 | ((with_reducible show AW _ _ _ _); first
 | (with_reducible first | refine aS (fun K hK => ?_) | refine aI ?_ | refine aX ?_ | refine aT ?_ | refine aC ?_ | refine aB ?_)
 | (first
 | (with_reducible first | refine aP 0 [0] ?_ | refine aP 1 [1] ?_ | refine aP 2 [] ?_ | refine aP 3 [1] ?_ | refine aP 4 [1,3] ?_ | refine aP 5 [1,3,4] ?_ | refine aP 6 [1,3,4] ?_ | refine aP 7 [1,3,4] ?_ | refine aP 8 [] ?_ | refine aP 9 [1,3] ?_ | refine aP 10 [1,3,5] ?_ | refine aP 11 [1,3,5] ?_ | refine aP 12 [1,3,5] ?_ | refine aP 13 [3] ?_))
 | ((with_reducible show AW _ (Code.loop _) _ _); first
 | ((with_reducible refine aL (c := (Code.seq (Code.seq (Code.region 5 _ _) _) _)) (ι := Nat) [1,3] (fun i => [(4, iA .i64 (i : Int))]) (fun i => []) (fun i => i <= f.k /\ (∀ j, j < i -> (f.S j).n <= 12)) (fun i => f.k - i) 0 ?lg5 ?l15 ?l25 ?li5 ?lr5); (case' lg5 => rintro i _); (case' li5 => try (exact ⟨Nat.zero_le _, fun i hi => absurd hi (Nat.not_lt_zero _)⟩)); (case' lr5 => rintro i ⟨hi, hai⟩ KR hR5; simp only [bI, dI, hset, lk, if_true, if_false, xE, reduceIte, zN, bR, bP, bV, bU, bX, bY, bQ, bS, bW, bT, bC, bB, bF]))
 | ((with_reducible refine aL (c := (Code.seq (Code.seq (Code.region 10 _ _) _) _)) (ι := Nat) [1] (fun j => [(3, iA .i64 (aff f.N j)), (5, iA .i64 (j : Int))]) (fun j => []) (fun j => j <= f.n) (fun j => f.n - j) 0 ?lg10 ?l110 ?l210 ?li10 ?lr10); (case' lg10 => rintro j _); (case' li10 => try (omega)); (case' lr10 => rintro j hj KR hR10; simp only [bI, dI, hset, lk, if_true, if_false, xE, reduceIte, zN, bR, bP, bV, bU, bX, bY, bQ, bS, bW, bT, bC, bB, bF]))))
 | ((first | (with_reducible refine And.intro ?_ ?_) | (with_reducible refine Need.mk ?_)); focus (first | exact True.intro | omega | (simp; done)))
 | (with_reducible refine aJ ?_)
 | ((with_reducible show bL _ _ _ _ _ _); first
 | ((with_reducible refine aM ?_ ?_) <;> (intro hc; (try simp only [zB, zC, reduceCtorEq] at hc); ((try (have hsn := (hf.s i (by omega)).n))); (try (exfalso; contradiction)))))
 | ((with_reducible show aQ _ _ _ _ _ _ _ _ _ _); first
 | (refine aF (k := 40) NT (ahY (f.N j) (hf.nn j (by omega))) ?_ ?_))
 | ((with_reducible refine hR5 _ (i + 1) ?_); (try clear hR5 KR))
 | ((with_reducible refine hR10 _ (j + 1) ?_); (try clear hR10 KR))
 | ((with_reducible refine Told.mk ?_); simp only [go_sem, reduceIte, reduceCtorEq, xA, xL, xD, xE, xM, xS, xB, bR, bP, bV, bU, bX, bY, bQ, bS, bW, bT, bC, bB, bF, bn] <;> ((((try simp (disch := omega) only [aV, Int.natCast_add, Int.cast_ofNat_Int, and_true, true_and, and_self]); (repeat' (first | omega | rfl | (with_reducible refine And.intro ?_ ?_) | ((exact all_succ (by assumption) (by omega))))); done))))
 | ((fail_if_success (with_reducible show AW _ _ _ _)); simp (maxSteps := 2000000) only [go_sem, reduceIte, reduceCtorEq, xA, xL, xD, xE, xM, xS, xB, Tryz.f11, bR, bP, bV, bU, bX, bY, bQ, bS, bW, bT, bC, bB, bF, bn])
 | ((with_reducible refine hK _ ?_); clear hK K)
 | (with_reducible apply_assumption -exfalso only [*]))
  all_goals (first | exact ajh (by assumption) | exact aiy (by assumption) (by assumption) | exact agV (by assumption) (by assumption) hai (by assumption) hj)
theorem IG (f : aj) (hf : f.Ok) : aA Tryz.prog 26 [jJ f] (.t (.one (.g (.bool (fK f))))) := by
  have hk := hf.k
  have hn := hf.n
  refine ak Tryz.func26 rfl (by rw [Tryz.ntmps26]; simp) ?_
  simp only [Tryz.ntmps26, zM, PT.tv, au, Nat.zero_add, Nat.reduceAdd]
  repeat' (first
 | ((with_reducible show AW _ _ _ _); first
 | (with_reducible first | refine aS (fun K hK => ?_) | refine aI ?_ | refine aX ?_ | refine aT ?_ | refine aC ?_ | refine aB ?_)
 | (first
 | (with_reducible first | refine aP 0 [0] ?_ | refine aP 1 [1] ?_ | refine aP 2 [] ?_ | refine aP 3 [1] ?_ | refine aP 4 [1,3] ?_ | refine aP 5 [1,3,19,20,21] ?_ | refine aP 6 [1,3,19,20,21] ?_ | refine aP 7 [1,3,5,19,20,21] ?_ | refine aP 8 [] ?_ | refine aP 9 [1,5,19,20,21] ?_ | refine aP 10 [1,3,19,20,21] ?_ | refine aP 11 [1] ?_ | refine aP 12 [1,3] ?_ | refine aP 13 [1,3,38,39,40] ?_ | refine aP 14 [1,3,38,39,40] ?_)
 | ((with_reducible refine aR (c := Code.region 15 _ true) [1,3,7,38,39,40] ?_); (with_reducible refine aD ?_ ?_ ?_ ?_); (focus kernel_rfl); (focus kernel_rfl); (focus kernel_rfl))
 | (with_reducible first | refine aP 16 [] ?_ | refine aP 17 [1,7,38,39,40] ?_ | refine aP 18 [1,3,38,39,40] ?_ | refine aP 19 [] ?_))
 | ((with_reducible show AW _ (Code.loop _) _ _); first
 | ((with_reducible refine aL (c := (Code.seq (Code.region 5 _ _) _)) (ι := Nat) [1,19,20] (fun i => [(3, iA .i64 (oH (fun j => (f.S j).ch) i)), (21, iA .i64 (i : Int))]) (fun i => []) (fun i => i <= f.k /\ (∀ j, j < i -> F9 f.S j)) (fun i => f.k - i) 0 ?lg5 ?l15 ?l25 ?li5 ?lr5); (case' lg5 => rintro i _); (case' li5 => try (exact ⟨Nat.zero_le _, fun i hi => absurd hi (Nat.not_lt_zero _)⟩)); (case' lr5 => rintro i ⟨hi, hai⟩ KR hR5; simp only [bI, dI, hset, lk, if_true, if_false, xE, reduceIte, zN, bR, bP, bV, bU, bX, bY, bQ, bS, bW, bT, bC, bB, bF, pX]))
 | ((with_reducible refine aL (c := (Code.seq (Code.region 13 _ _) _)) (ι := Nat) [1,38,39] (fun j => [(3, iA .i64 (oH (fun i => (f.N i).nu) j)), (40, iA .i64 (j : Int))]) (fun j => []) (fun j => j <= f.n /\ (∀ i, i < j -> AZ f.N i)) (fun j => f.n - j) 0 ?lg13 ?l113 ?l213 ?li13 ?lr13); (case' lg13 => rintro j _); (case' li13 => try (exact ⟨Nat.zero_le _, fun i hi => absurd hi (Nat.not_lt_zero _)⟩)); (case' lr13 => rintro j ⟨hj, haj⟩ KR hR13; simp only [bI, dI, hset, lk, if_true, if_false, xE, reduceIte, zN, bR, bP, bV, bU, bX, bY, bQ, bS, bW, bT, bC, bB, bF, pX]))))
 | ((first | (with_reducible refine And.intro ?_ ?_) | (with_reducible refine Need.mk ?_)); focus (first | exact True.intro | omega | (intros; (repeat' (first | omega | (with_reducible refine And.intro ?_ ?_))); done) | (simp; done)))
 | (with_reducible refine aJ ?_)
 | ((with_reducible show bL _ _ _ _ _ _); first
 | ((with_reducible refine aM ?_ ?_) <;> (intro hc; (try simp only [zB, zC, reduceCtorEq] at hc); (try (exfalso; contradiction)))))
 | ((with_reducible refine And.intro ?_ ?_); focus ((with_reducible show gW _ _ _ = true); kernel_rfl))
 | ((with_reducible show aQ _ _ _ _ _ _ _ _ _ _); first
 | (refine aF (k := 48) kH (lN (f.S i) (hf.s i (by omega))) ?_ ?_))
 | ((with_reducible show eu _ _ _ _ _ _ _ _ _ _ _ _ _); first
 | (refine cB (k := 18) iP (nX (f.N j) (hf.nn j (by omega))) ?_ ?_))
 | ((with_reducible refine hR5 _ (i + 1) ?_); (try clear hR5 KR))
 | ((with_reducible refine hR13 _ (j + 1) ?_); (try clear hR13 KR))
 | ((with_reducible refine Told.mk ?_); simp only [go_sem, reduceIte, reduceCtorEq, xA, xL, xD, xE, xM, xS, xB, bR, bP, bV, bU, bX, bY, bQ, bS, bW, bT, bC, bB, bF, bn, pX] <;> (first | (((try simp (disch := omega) only [aV, Int.natCast_add, Int.cast_ofNat_Int, and_true, true_and, and_self]); (repeat' (first | omega | rfl | (with_reducible refine And.intro ?_ ?_) | ((exact all_succ (by assumption) (X7 (by assumption)))))); done)) | (((try simp (disch := omega) only [aV, Int.natCast_add, Int.cast_ofNat_Int, and_true, true_and, and_self]); (repeat' (first | omega | (with_reducible refine And.intro ?_ ?_) | ((exact all_succ (by assumption) (WB (by assumption)))))); done))))
 | ((fail_if_success (with_reducible show AW _ _ _ _)); simp (maxSteps := 2000000) only [go_sem, reduceIte, reduceCtorEq, xA, xL, xD, xE, xM, xS, xB, Tryz.f26, bR, bP, bV, bU, bX, bY, bQ, bS, bW, bT, bC, bB, bF, bn, pX])
 | ((with_reducible refine hK _ ?_); clear hK K)
 | (with_reducible apply_assumption -exfalso only [*]))
  all_goals (first | exact agH (by assumption) | exact ajX (by assumption) hai hc | exact aiu (by assumption) hc | exact ajO (by assumption) (by assumption) hai (by assumption) haj)
theorem oD (f : aj) (hf : f.Ok) (ch : Int) : aA Tryz.prog 45 [jJ f, .one (.g (.int .i64 ch))] (.tup [.one (.g (.int .i64 (asV f ch))), .one (.g (.int .i64 (jL f ch)))]) := by
  have hk := hf.k
  have hn := hf.n
  refine ak Tryz.func45 rfl (by rw [Tryz.ntmps45]; simp) ?_
  simp only [Tryz.ntmps45, zM, PT.tv, au, Nat.zero_add, Nat.reduceAdd]
  repeat' (first
 | ((with_reducible show AW _ _ _ _); first
 | (with_reducible first | refine aS (fun K hK => ?_) | refine aI ?_ | refine aX ?_ | refine aT ?_ | refine aC ?_ | refine aB ?_)
 | (first
 | (with_reducible first | refine aP (ops := #[⟨some 2, _, _, _, _, _⟩, _, _, _]) 0 [0,1] ?_ | refine aP (ops := #[⟨some 4, _, _, _, _, _⟩]) 0 [0,1] ?_ | refine aP (ops := #[⟨some 2, _, _, _, _, _⟩, _]) 0 [0,1] ?_ | refine aP (ops := #[⟨some 7, _, _, _, _, _⟩, _, _, _, _, _, _, _, _, _, _]) 1 [2,3] ?_ | refine aP (ops := #[⟨some 6, _, _, _, _, _⟩, _, _]) 1 [0,1] ?_ | refine aP (ops := #[⟨some 4, _, _, _, _, _⟩, _, _, _, _]) 1 [1,2] ?_ | refine aP (ops := #[⟨some 4, _, _, _, _, _⟩, _]) 2 [] ?_ | refine aP (ops := #[⟨some 9, _, _, _, _, _⟩]) 2 [0,1,7,8] ?_ | refine aP (ops := #[⟨some 18, _, _, _, _, _⟩, _, _, _, _]) 3 [2,3] ?_ | refine aP (ops := #[⟨some 10, _, _, _, _, _⟩, _]) 3 [0,1,7,8] ?_ | refine aP (ops := #[⟨some 22, _, _, _, _, _⟩, _]) 4 [6] ?_ | refine aP (ops := #[⟨some 11, _, _, _, _, _⟩, _, _, _, _, _]) 4 [0,1,5,7,8] ?_ | refine aP (ops := #[⟨some 4, _, _, _, _, _⟩, _]) 5 [] ?_ | refine aP (ops := #[⟨some 17, _, _, _, _, _⟩, _]) 5 [5] ?_ | refine aP (ops := #[⟨some 24, _, _, _, _, _⟩, _, _]) 6 [6] ?_ | refine aP (ops := #[⟨some 18, _, _, _, _, _⟩, _]) 6 [0,1,7,8] ?_ | refine aP 7 [] ?_))
 | ((with_reducible show AW _ (Code.loop _) _ _); first
 | ((with_reducible refine aL (c := (Code.seq (Code.region 2 _ _) _)) (ι := Nat) [0,1,7] (fun i => [(8, iA .i64 (i : Int))]) (fun i => []) (fun i => i <= f.k /\ (∀ j, j < i -> (f.S j).ch ≠ ch)) (fun i => f.k - i) 0 ?lg2 ?l12 ?l22 ?li2 ?lr2); (case' lg2 => rintro i _); (case' li2 => try (exact ⟨Nat.zero_le _, fun i hi => absurd hi (Nat.not_lt_zero _)⟩)); (case' lr2 => rintro i ⟨hi, hai⟩ KR hR2; simp only [bI, dI, hset, lk, if_true, if_false, xE, reduceIte, zN, bR, bP, bV, bU, bX, bY, bQ, bS, bW, bT, bC, bB, bF]))))
 | ((first | (with_reducible refine And.intro ?_ ?_) | (with_reducible refine Need.mk ?_)); focus (first | exact True.intro | omega | (simp; done)))
 | (with_reducible refine aJ ?_)
 | ((with_reducible show bL _ _ _ _ _ _); first
 | ((with_reducible refine aM ?_ ?_) <;> (intro hc; (try simp only [zB, zC, reduceCtorEq] at hc); (try (exfalso; contradiction)))))
 | ((with_reducible show aQ _ _ _ _ _ _ _ _ _ _); first
 | (refine aF (k := 26) qB (IG f hf) ?_ ?_)
 | ((refine dA (k := 89) Tryz.func89 rfl NI (by rw [Tryz.ntmps89]; simp) ?_ ?_ (fun K hK => ?_)); (focus (exact True.intro)); (focus ((simp [jF]; done))); simp only [Tryz.ntmps89, List.map_cons, List.map_nil, List.nil_append, List.cons_append, List.append_nil, LV.tv, au, Nat.zero_add, Nat.reduceAdd])
 | ((refine nM (k := 90) Tryz.func90 rfl acj (by rw [Tryz.ntmps90]; simp) ?_ ?_ (fun K hK => ?_)); (focus (exact True.intro)); (focus ((simp [jF]; done))); simp only [Tryz.ntmps90, List.map_cons, List.map_nil, List.nil_append, List.cons_append, List.append_nil, LV.tv, au, Nat.zero_add, Nat.reduceAdd]))
 | ((with_reducible refine hR2 _ (i + 1) ?_); (try clear hR2 KR))
 | ((with_reducible refine Told.mk ?_); simp only [go_sem, reduceIte, reduceCtorEq, xA, xL, xD, xE, xM, xS, xB, bR, bP, bV, bU, bX, bY, bQ, bS, bW, bT, bC, bB, bF, bn] <;> ((((try simp (disch := omega) only [aV, Int.natCast_add, Int.cast_ofNat_Int, and_true, true_and, and_self]); (repeat' (first | omega | (with_reducible refine And.intro ?_ ?_) | (exact all_succ (by assumption) (by assumption)))); done))))
 | ((fail_if_success (with_reducible show AW _ _ _ _)); simp (maxSteps := 2000000) only [go_sem, reduceIte, reduceCtorEq, xA, xL, xD, xE, xM, xS, xB, Tryz.f45, Tryz.f89, Tryz.f90, bR, bP, bV, bU, bX, bY, bQ, bS, bW, bT, bC, bB, bF, bn])
 | ((with_reducible refine hK _ ?_); clear hK K)
 | (with_reducible apply_assumption -exfalso only [*]))
  all_goals (try rw [anQ (by assumption) (by assumption) hai] at *)
  all_goals (first | (have e1 := aoz (f := f) (by assumption) hai; have e := anx (by assumption) (show Oa f ch < 0 by rw [<- e1]; decide); rw [e.1, e.2]; (repeat' (first | exact rfl | (with_reducible refine And.intro ?_ ?_))); done) | (have e := agf (by assumption); rw [e.1, e.2]; (repeat' (first | exact rfl | (with_reducible refine And.intro ?_ ?_))); done) | (have e := anv (by assumption) (by assumption); rw [e.1, e.2]; (repeat' (first | exact rfl | (with_reducible refine And.intro ?_ ?_))); done))
theorem Fy (N : ah) (ch : Int) (ho : N.Ok) : aA Tryz.prog 60 [.agg [.g (.int .i64 N.oc), .g (.int .i64 N.nu), .g (.int .i64 N.kd), .g (.int .i64 N.fr), .g (.int .i64 N.un), .g (.int .i64 N.ca), .lst 3 N.n (dK N.p)], .one (.g (.int .i64 ch))] (.tup [.agg [.g (.int .i64 (jr N ch).ch), .lst 1 (jr N ch).q (bn (jr N ch).a), .lst 16 (jr N ch).k (iR (jr N ch).o)], .one (.g (.bool (iQ N ch)))]) := by
  have hnn := ho.n
  refine ak Tryz.func60 rfl (by rw [Tryz.ntmps60]; simp) ?_
  simp only [Tryz.ntmps60, zM, PT.tv, au, Nat.zero_add, Nat.reduceAdd]
  repeat' (first
 | ((with_reducible show AW _ _ _ _); first
 | (with_reducible first | refine aS (fun K hK => ?_) | refine aI ?_ | refine aX ?_ | refine aT ?_ | refine aC ?_ | refine aB ?_)
 | (first
 | (with_reducible first | refine aP 0 [0,1] ?_ | refine aP 1 [1,2,4] ?_ | refine aP 2 [1,4,9,10,11] ?_ | refine aP 3 [1,4,9,10,11] ?_ | refine aP 4 [1,4,7,9,10,11] ?_ | refine aP 5 [4,7] ?_ | refine aP 6 [1,4,9,10,11] ?_ | refine aP 7 [4] ?_))
 | ((with_reducible show AW _ (Code.loop _) _ _); first
 | ((with_reducible refine aL (c := (Code.seq (Code.region 2 _ _) _)) (ι := Nat) [1,4,9,10] (fun i => [(11, iA .i64 (i : Int))]) (fun i => []) (fun i => i <= N.n /\ (∀ j, j < i -> (N.p j).ch ≠ ch)) (fun i => N.n - i) 0 ?lg2 ?l12 ?l22 ?li2 ?lr2); (case' lg2 => rintro i _); (case' li2 => try (exact ⟨Nat.zero_le _, fun i hi => absurd hi (Nat.not_lt_zero _)⟩)); (case' lr2 => rintro i ⟨hi, hai⟩ KR hR2; simp only [bI, dI, hset, lk, if_true, if_false, xE, reduceIte, zN]))))
 | (((with_reducible refine And.intro ?_ ?_)); focus (omega))
 | (with_reducible refine aJ ?_)
 | ((with_reducible show bL _ _ _ _ _ _); first
 | ((with_reducible refine aM ?_ ?_) <;> (intro hc; (try simp only [zB, zC, reduceCtorEq] at hc); (try (exfalso; contradiction)))))
 | ((with_reducible refine hR2 _ (i + 1) ?_); (try clear hR2 KR))
 | ((with_reducible refine Told.mk ?_); simp only [go_sem, reduceIte, reduceCtorEq, xA, xL, xD, xE, xM, xS, xB, bn] <;> ((((try simp (disch := omega) only [aV, Int.natCast_add, Int.cast_ofNat_Int, and_true, true_and, and_self]); (repeat' (first | omega | (with_reducible refine And.intro ?_ ?_) | (exact all_succ (by assumption) (by assumption)))); done))))
 | ((fail_if_success (with_reducible show AW _ _ _ _)); simp (maxSteps := 2000000) only [go_sem, reduceIte, reduceCtorEq, xA, xL, xD, xE, xM, xS, xB, Tryz.f60, bn])
 | ((with_reducible refine hK _ ?_); clear hK K)
 | (with_reducible apply_assumption -exfalso only [*]))
  all_goals (first | (have e := WE (N := N) (by assumption) (by assumption) hai; have e2 : iQ N ch = true := decide_eq_true (by rw [e]; omega); have e3 : jr N ch = N.p i := (Fv e2).trans (by unfold prt; rw [e]); rw [e2, e3]; (repeat' (first | exact rfl | (with_reducible refine And.intro ?_ ?_) | (intro i q hi hq; exact IV.bf _) | (intro i q hi hq; exact rfl))); done) | (have e := U2 (N := N) (by assumption) hai; have e2 : iQ N ch = false := decide_eq_false (by rw [e]; omega); have e3 : jr N ch = Ey := (by unfold jr; rw [e2]; rfl); rw [e2, e3]; (repeat' (first | exact rfl | (with_reducible refine And.intro ?_ ?_))); done))
theorem DF (N : ah) (ch : Int) (ho : N.Ok) : aA Tryz.prog 70 [.agg [.g (.int .i64 N.oc), .g (.int .i64 N.nu), .g (.int .i64 N.kd), .g (.int .i64 N.fr), .g (.int .i64 N.un), .g (.int .i64 N.ca), .lst 3 N.n (dK N.p)], .one (.g (.int .i64 ch))] (.t (.one (.g (.bool (kD N ch))))) := by
  refine ak Tryz.func70 rfl (by rw [Tryz.ntmps70]; simp) ?_
  simp only [Tryz.ntmps70, zM, PT.tv, au, Nat.zero_add, Nat.reduceAdd]
  repeat' (first
 | ((with_reducible show AW _ _ _ _); first
 | (with_reducible first | refine aS (fun K hK => ?_) | refine aT ?_)
 | (first
 | (with_reducible first | refine aP 0 [0,1] ?_ | refine aP 1 [1,2] ?_ | refine aP 2 [2,6] ?_)))
 | (((with_reducible refine Need.mk ?_)); focus (exact True.intro))
 | (with_reducible refine aJ ?_)
 | ((with_reducible show aQ _ _ _ _ _ _ _ _ _ _); first
 | (refine aF (k := 60) zh (Fy N ch ho) ?_ ?_))
 | ((fail_if_success (with_reducible show AW _ _ _ _)); simp (maxSteps := 2000000) only [go_sem, reduceIte, reduceCtorEq, xA, xL, xD, xE, xM, xS, xB, Tryz.f70, bn])
 | ((with_reducible refine hK _ ?_); clear hK K))
  all_goals (unfold kD; cases iQ N ch <;> simp <;> rw [Bool.eq_iff_iff] <;> simp)
end Go.Proofs.YtcfechepbamhkaaGreat
namespace Go.Proofs.YtcfechepbamhkaaGreat
open Go.ChangeShapes Go.WideShapes Go.ChangeAt Go.RowKit Go.Joins Go.Deep Go.Sea
theorem Ry {w : World} {Z : Nat -> Prop} {v u : Value} (h : Rd w Z v (.g u)) : v = u := by cases h; rfl
abbrev Zw (w : World) : Nat -> Prop := fun b => b < w.heap.size
section
variable {H : Type} {enc : TypeId × Value -> H} {w : World} {base : Nat} {spare : Nat -> Bool} {held : Bool} {r : Reach} {b0 : Nat} {v : Value} {d : DataW H} {p : List MemPlace}
theorem SB {a : Addr} {j : Nat} {x : Value} (h : w.cell? (a.add j) = some x) (h0 : j = 0 \/ a.spot = none) : a.spot = none := by
  rcases h0 with rfl | h0
  · obtain ⟨ab, ao, sub⟩ := a
    cases sub with
    | none => rfl
    | some y =>
      exfalso
      simp [Addr.add, World.cell?] at h
      split at h <;> simp at h
  · exact h0
theorem kR {t e : TypeId} (ht : Tryz.prog.underlying t = some (.slice e)) {E : Nat} (hE : Tryz.prog.cellsOf e = E) (h0 : 0 < E) {α : Type} [Inhabited α] (F : α -> Nat -> IV)
    (el : ∀ (n : Nat) (cs : List Value) (y : DataW H × List MemPlace), DataW.trod enc Tryz.prog w base spare held n e cs = some y -> cs.length = E -> ∃ z : α, ∀ (o : Nat) v, cs[o]? = some v -> Rd w (Zw w) v (F z o))
    {c : Value} {n : Nat} {y : DataW H × List MemPlace} (h : DataW.trod enc Tryz.prog w base spare held n t [c] = some y) : ∃ (k : Nat) (Z : Nat -> α), k <= 9223372036854775807 /\ Rd w (Zw w) c (.lst E k fun i o => F (Z i) o) := by
  rcases open_slice ht h with ⟨e, _⟩ | ⟨a, len, cap, m, n', D, Pl, e, hb, hl, hm, hmm, _, hx⟩
  · simp at e; subst e
    exact ⟨0, fun _ => default, Nat.zero_le _, .nil _ _ _ _⟩
  · simp at e
    subst e
    rw [hE] at hx
    have hlm : len <= m := by rw [hmm]; split <;> omega
    have each : ∀ i, i < len -> ∃ q : α × (Nat -> Value), ∀ o, o < E -> w.cell? (a.add (i * E + o)) = some (q.2 o) /\ Rd w (Zw w) (q.2 o) (F q.1 o) := fun i hi => by
      obtain ⟨cs', h1, h2⟩ := hx i (by omega)
      obtain ⟨_, hlen, hcell⟩ := World.cells?_some h1
      obtain ⟨z, hz⟩ := el _ _ _ h2 hlen
      refine ⟨(z, fun o => cs'.getD o undef), fun o ho => ?_⟩
      have h3 := hcell o ho
      rw [add_add] at h3
      have h4 : cs'[o]? = some (cs'.getD o undef) := by simp [List.getD, show o < cs'.length by omega]
      rw [h4] at h3
      exact ⟨h3, hz o _ h4⟩
    obtain ⟨Q, hQ⟩ := choose_lt each
    refine ⟨len, fun i => (Q i).1, by unfold maxLen at hm; omega, ?_⟩
    rcases Nat.eq_zero_or_pos len with hz | hpos
    · subst hz; exact .nil _ _ _ _
    · have hs := SB (hQ 0 hpos 0 h0).1 (Or.inl (by omega))
      obtain ⟨ab, ao, sub⟩ := a
      simp only at hs
      subst hs
      have hlt : ab < w.heap.size := by
        have := World.block_lt_of_cell? w _ (hQ 0 hpos 0 h0).1
        rwa [Addr.add_lit] at this
      refine .lst ab ao len cap E _ (fun i o => (Q i).2 o) hlt hl hm (fun i o hi' ho => ?_) fun i o hi' ho => (hQ i hi' o ho).2
      have := (hQ i hi' o ho).1
      rw [Addr.add_lit] at this
      rw [Nat.add_assoc]; exact this
theorem cells3 : Tryz.prog.cellsOf 3 = 1 := by kernel_rfl
theorem Ua {n : Nat} {cs : List Value} {y : DataW H × List MemPlace} (h : DataW.trod enc Tryz.prog w base spare held n 3 cs = some y) (hl : cs.length = 1) : ∃ z : Int, ∀ (o : Nat) v, cs[o]? = some v -> Rd w (Zw w) v (.g (.int .i64 z)) := by
  obtain ⟨z, e, _, _⟩ := DataW.trod_int Tryz.underlying3 h
  subst e
  refine ⟨z, fun o v hv => ?_⟩
  rcases o with _ | o
  · simp at hv; subst hv; exact .g _ rfl
  · simp at hv
set_option maxRecDepth 100000 in
theorem open_ints' {c : Value} {n : Nat} {y : DataW H × List MemPlace} (h : DataW.trod enc Tryz.prog w base spare held n 36 [c] = some y) : ∃ (k : Nat) (s : Nat -> Int), k <= 9223372036854775807 /\ Rd w (Zw w) c (.lst 1 k (bn s)) :=
  kR Tryz.underlying36 cells3 (by omega) (fun z _ => .g (.int .i64 z)) (fun n cs y h hl => Ua h hl) h
set_option maxRecDepth 100000 in
theorem U1 (hv : Value.okWide Tryz.prog w r b0 3 v) (h : DataW.Trod enc Tryz.prog w base spare held 3 v d p) : ∃ x : Int, v = .int .i64 x /\ (Lit.int .i64 x).wf = true := by
  obtain ⟨x, hx, _, _, wx⟩ := open_int Tryz.underlying3 hv h
  exact ⟨x, hx, wx⟩
theorem OM {cs : List Value} {k : Nat} {v c : Value} (h : (cs.drop k).take 1 = [c]) (hv : cs[k]? = some v) : v = c := by
  have h1 : ((cs.drop k).take 1)[0]? = some c := by rw [h]; rfl
  rw [List.getElem?_take, if_pos (by omega), List.getElem?_drop, Nat.add_zero, hv] at h1
  exact Option.some.inj h1
theorem gu {cs : List Value} {k m o : Nat} {v : Value} (ho : o < m) (hv : cs[k + o]? = some v) : ((cs.drop k).take m)[o]? = some v := by
  rw [List.getElem?_take, if_pos ho, List.getElem?_drop]; exact hv
theorem yX {t : TypeId} {fs : Array Field} {n : Nat} {cs : List Value} {y : DataW H × List MemPlace} (ht : Tryz.prog.underlying t = some (.struct fs)) (h : DataW.trod enc Tryz.prog w base spare held n t cs = some y) (i : Nat) {f : Field} (hf : fs[i]? = some f) {T k m : Nat} (hT : f.type = T) (hk : f.offset = k) (hm : Tryz.prog.cellsOf T = m) :
    cs.length = Tryz.prog.cellsOf t /\ ∃ n' y', DataW.trod enc Tryz.prog w base spare held n' T ((cs.drop k).take m) = some y' := by
  obtain ⟨xs, n', _, _, hl, hlen, hx⟩ := DataW.trod_struct ht h
  have h1 := hx i f hf
  rw [hT, hk, hm] at h1
  have hi : i < xs.length := by
    rw [hlen]
    have := (Array.getElem?_eq_some_iff.1 hf)
    exact this.1
  rw [List.getElem?_eq_getElem hi] at h1
  exact ⟨hl, n', _, h1⟩
theorem dL {t : TypeId} {fs : Array Field} {n : Nat} {cs : List Value} {y : DataW H × List MemPlace} (ht : Tryz.prog.underlying t = some (.struct fs)) (h : DataW.trod enc Tryz.prog w base spare held n t cs = some y) (i : Nat) {f : Field} (hf : fs[i]? = some f) (hT : f.type = 3) {k : Nat} (hk : f.offset = k) :
    ∃ a : Int, ∀ v, cs[k]? = some v -> Rd w (Zw w) v (.g (.int .i64 a)) := by
  obtain ⟨_, n', y', g⟩ := yX ht h i hf hT hk cells3
  obtain ⟨a, e, _, _⟩ := DataW.trod_int Tryz.underlying3 g
  exact ⟨a, fun v hv => by rw [OM e hv]; exact .g _ rfl⟩
theorem oO {t e : TypeId} (ht : Tryz.prog.underlying t = some (.slice e)) {n : Nat} {cs : List Value} {k : Nat} {y : DataW H × List MemPlace} (h : DataW.trod enc Tryz.prog w base spare held n t ((cs.drop k).take 1) = some y) : ∃ c, DataW.trod enc Tryz.prog w base spare held n t [c] = some y /\ ∀ v, cs[k]? = some v -> v = c := by
  obtain ⟨a, l, c, e⟩ := slice_form ht h
  exact ⟨_, by rw [e] at h; exact h, fun v hv => OM e hv⟩
abbrev Ot : Type := {f : aZ // f.Ok}
abbrev OpK : Type := {o : fE // o.f.Ok}
abbrev Nf : Type := {p : eH // p.Ok}
abbrev ad1 : Type := {p : ah // p.Ok}
abbrev ad9 : Type := {p : aH // p.Ok}
instance : Inhabited ad9 := ⟨⟨bq, by simp [bq], by simp [bq], fun i h => absurd h (Nat.not_lt_zero i)⟩⟩
instance : Inhabited Ot := ⟨⟨eF, ql⟩⟩
instance : Inhabited OpK := ⟨⟨Ti 0 0, ql⟩⟩
instance : Inhabited Nf := ⟨⟨⟨0, 0, fun _ => 0, 0, fun _ => Ti 0 0⟩, Nat.zero_le _, Nat.zero_le _, fun _ h => absurd h (Nat.not_lt_zero _)⟩⟩
instance : Inhabited ad1 := ⟨⟨⟨0, 0, 0, 0, 0, 0, 0, fun _ => ⟨0, 0, fun _ => 0, 0, fun _ => Ti 0 0⟩⟩, Nat.zero_le _, fun _ h => absurd h (Nat.not_lt_zero _)⟩⟩
theorem Pq : Tryz.prog.cellsOf 36 = 1 := by kernel_rfl
theorem aaZ : Tryz.prog.cellsOf 61 = 1 := by kernel_rfl
theorem acp : Tryz.prog.cellsOf 62 = 1 := by kernel_rfl
theorem abO : Tryz.prog.cellsOf 37 = 1 := by kernel_rfl
theorem aaY : Tryz.prog.cellsOf 56 = 1 := by kernel_rfl
theorem aez : Tryz.prog.cellsOf 26 = 1 := by kernel_rfl
theorem qA : Tryz.prog.cellsOf 60 = 2 := by kernel_rfl
set_option maxRecDepth 100000 in
theorem pF {n : Nat} {cs : List Value} {y : DataW H × List MemPlace} (h : DataW.trod enc Tryz.prog w base spare held n 60 cs = some y) : ∃ z : Nat -> Int, ∀ (o : Nat) v, cs[o]? = some v -> Rd w (Zw w) v (.g (.int .i64 (z o))) := by
  have hlen : cs.length = 2 := by rw [(yX Tryz.underlying60 h 0 rfl rfl rfl rfl).1, qA]
  obtain ⟨a, ca⟩ := dL Tryz.underlying60 h 0 rfl rfl rfl (k := 0)
  obtain ⟨b, cb⟩ := dL Tryz.underlying60 h 1 rfl rfl rfl (k := 1)
  refine ⟨fun o => match o with | 0 => a | _ => b, fun o v hv => ?_⟩
  match o, hv with
  | 0, hv => exact ca _ hv
  | 1, hv => exact cb _ hv
  | o + 2, hv => rw [List.getElem?_eq_none (by omega)] at hv; cases hv
theorem IX : Tryz.prog.cellsOf 174 = 6 := by kernel_rfl
set_option maxRecDepth 100000 in
theorem PL {n : Nat} {cs : List Value} {y : DataW H × List MemPlace} (h : DataW.trod enc Tryz.prog w base spare held n 174 cs = some y) : ∃ z : Nat -> Int, ∀ (o : Nat) v, cs[o]? = some v -> Rd w (Zw w) v (.g (.int .i64 (z o))) := by
  have hlen : cs.length = 6 := by rw [(yX Tryz.underlying174 h 0 rfl rfl rfl rfl).1, IX]
  obtain ⟨_, n0, y0, g0⟩ := yX Tryz.underlying174 h 0 rfl rfl rfl (k := 0) (T := 60) qA
  obtain ⟨p, r0⟩ := pF g0
  obtain ⟨_, n1, y1, g1⟩ := yX Tryz.underlying174 h 1 rfl rfl rfl (k := 2) (T := 60) qA
  obtain ⟨q, r1⟩ := pF g1
  obtain ⟨c, cc⟩ := dL Tryz.underlying174 h 2 rfl rfl rfl (k := 4)
  obtain ⟨d, cd⟩ := dL Tryz.underlying174 h 3 rfl rfl rfl (k := 5)
  refine ⟨fun o => match o with | 0 => p 0 | 1 => p 1 | 2 => q 0 | 3 => q 1 | 4 => c | _ => d, fun o v hv => ?_⟩
  match o, hv with
  | 0, hv => exact r0 0 _ (gu (by omega) hv)
  | 1, hv => exact r0 1 _ (gu (by omega) hv)
  | 2, hv => exact r1 0 _ (gu (by omega) hv)
  | 3, hv => exact r1 1 _ (gu (by omega) hv)
  | 4, hv => exact cc _ hv
  | 5, hv => exact cd _ hv
  | o + 6, hv => rw [List.getElem?_eq_none (by omega)] at hv; cases hv
theorem Ju : Tryz.prog.cellsOf 35 = 7 := by kernel_rfl
set_option maxRecDepth 100000 in
theorem Rx {n : Nat} {cs : List Value} {y : DataW H × List MemPlace} (h : DataW.trod enc Tryz.prog w base spare held n 35 cs = some y) : ∃ z : Nat -> Int, ∀ (o : Nat) v, cs[o]? = some v -> Rd w (Zw w) v (.g (.int .i64 (z o))) := by
  have hlen : cs.length = 7 := by rw [(yX Tryz.underlying35 h 0 rfl rfl rfl rfl).1, Ju]
  obtain ⟨a0, ca0⟩ := dL Tryz.underlying35 h 0 rfl rfl rfl (k := 0)
  obtain ⟨a1, ca1⟩ := dL Tryz.underlying35 h 1 rfl rfl rfl (k := 1)
  obtain ⟨a2, ca2⟩ := dL Tryz.underlying35 h 2 rfl rfl rfl (k := 2)
  obtain ⟨a3, ca3⟩ := dL Tryz.underlying35 h 3 rfl rfl rfl (k := 3)
  obtain ⟨a4, ca4⟩ := dL Tryz.underlying35 h 4 rfl rfl rfl (k := 4)
  obtain ⟨a5, ca5⟩ := dL Tryz.underlying35 h 5 rfl rfl rfl (k := 5)
  obtain ⟨a6, ca6⟩ := dL Tryz.underlying35 h 6 rfl rfl rfl (k := 6)
  refine ⟨fun o => match o with | 0 => a0 | 1 => a1 | 2 => a2 | 3 => a3 | 4 => a4 | 5 => a5 | _ => a6, fun o v hv => ?_⟩
  match o, hv with
  | 0, hv => exact ca0 _ hv
  | 1, hv => exact ca1 _ hv
  | 2, hv => exact ca2 _ hv
  | 3, hv => exact ca3 _ hv
  | 4, hv => exact ca4 _ hv
  | 5, hv => exact ca5 _ hv
  | 6, hv => exact ca6 _ hv
  | o + 7, hv => rw [List.getElem?_eq_none (by omega)] at hv; cases hv
set_option maxRecDepth 100000 in
theorem Xc {c : Value} {n : Nat} {y : DataW H × List MemPlace} (h : DataW.trod enc Tryz.prog w base spare held n 61 [c] = some y) : ∃ (k : Nat) (s : Nat -> (Nat -> Int)), k <= 9223372036854775807 /\ Rd w (Zw w) c (.lst 2 k (eO s)) :=
  kR Tryz.underlying61 qA (by omega) (fun (z : Nat -> Int) o => .g (.int .i64 (z o))) (fun n cs y h hl => pF h) h
set_option maxRecDepth 100000 in
theorem Sj {c : Value} {n : Nat} {y : DataW H × List MemPlace} (h : DataW.trod enc Tryz.prog w base spare held n 62 [c] = some y) : ∃ (k : Nat) (s : Nat -> (Nat -> Int)), k <= 9223372036854775807 /\ Rd w (Zw w) c (.lst 6 k (eO s)) :=
  kR Tryz.underlying62 IX (by omega) (fun (z : Nat -> Int) o => .g (.int .i64 (z o))) (fun n cs y h hl => PL h) h
theorem w9 : Tryz.prog.cellsOf 64 = 9 := by kernel_rfl
set_option maxRecDepth 100000 in
theorem Bz {n : Nat} {cs : List Value} {y : DataW H × List MemPlace} (h : DataW.trod enc Tryz.prog w base spare held n 64 cs = some y) : ∃ z : Ot, ∀ (o : Nat) v, cs[o]? = some v -> Rd w (Zw w) v (ZE z.1 o) := by
  have hlen : cs.length = 9 := by rw [(yX Tryz.underlying64 h 0 rfl rfl rfl rfl).1, w9]
  obtain ⟨a0, ca0⟩ := dL Tryz.underlying64 h 0 rfl rfl rfl (k := 0)
  obtain ⟨a1, ca1⟩ := dL Tryz.underlying64 h 1 rfl rfl rfl (k := 1)
  obtain ⟨_, n2, y2, g2⟩ := yX Tryz.underlying64 h 2 rfl rfl rfl (k := 2) (T := 60) qA
  obtain ⟨p, r2⟩ := pF g2
  obtain ⟨a3, ca3⟩ := dL Tryz.underlying64 h 3 rfl rfl rfl (k := 4)
  obtain ⟨_, n4, y4, g4⟩ := yX Tryz.underlying64 h 4 rfl rfl rfl (k := 5) (T := 61) aaZ
  obtain ⟨c4, k4, e4⟩ := oO Tryz.underlying61 g4
  obtain ⟨m4, s4, b4, r4⟩ := Xc k4
  obtain ⟨a5, ca5⟩ := dL Tryz.underlying64 h 5 rfl rfl rfl (k := 6)
  obtain ⟨a6, ca6⟩ := dL Tryz.underlying64 h 6 rfl rfl rfl (k := 7)
  obtain ⟨_, n7, y7, g7⟩ := yX Tryz.underlying64 h 7 rfl rfl rfl (k := 8) (T := 62) acp
  obtain ⟨c7, k7, e7⟩ := oO Tryz.underlying62 g7
  obtain ⟨m7, s7, b7, r7⟩ := Sj k7
  refine ⟨⟨⟨a0, a1, p 0, p 1, a3, m4, s4, a5, a6, m7, s7⟩, b4, b7⟩, fun o v hv => ?_⟩
  match o, hv with
  | 0, hv => exact ca0 _ hv
  | 1, hv => exact ca1 _ hv
  | 2, hv => exact r2 0 _ (gu (by omega) hv)
  | 3, hv => exact r2 1 _ (gu (by omega) hv)
  | 4, hv => exact ca3 _ hv
  | 5, hv => rw [e4 _ hv]; exact r4
  | 6, hv => exact ca5 _ hv
  | 7, hv => exact ca6 _ hv
  | 8, hv => rw [e7 _ hv]; exact r7
  | o + 9, hv => rw [List.getElem?_eq_none (by omega)] at hv; cases hv
theorem OT : Tryz.prog.cellsOf 66 = 16 := by kernel_rfl
set_option maxRecDepth 100000 in
theorem X5 {n : Nat} {cs : List Value} {y : DataW H × List MemPlace} (h : DataW.trod enc Tryz.prog w base spare held n 66 cs = some y) : ∃ z : OpK, ∀ (o : Nat) v, cs[o]? = some v -> Rd w (Zw w) v (ajp z.1 o) := by
  have hlen : cs.length = 16 := by rw [(yX Tryz.underlying66 h 0 rfl rfl rfl rfl).1, OT]
  obtain ⟨a0, ca0⟩ := dL Tryz.underlying66 h 0 rfl rfl rfl (k := 0)
  obtain ⟨a1, ca1⟩ := dL Tryz.underlying66 h 1 rfl rfl rfl (k := 1)
  obtain ⟨_, n2, y2, g2⟩ := yX Tryz.underlying66 h 2 rfl rfl rfl (k := 2) (T := 64) w9
  obtain ⟨f, r2⟩ := Bz g2
  obtain ⟨_, n3, y3, g3⟩ := yX Tryz.underlying66 h 3 rfl rfl rfl (k := 11) (T := 60) qA
  obtain ⟨p, r3⟩ := pF g3
  obtain ⟨a4, ca4⟩ := dL Tryz.underlying66 h 4 rfl rfl rfl (k := 13)
  obtain ⟨a5, ca5⟩ := dL Tryz.underlying66 h 5 rfl rfl rfl (k := 14)
  obtain ⟨a6, ca6⟩ := dL Tryz.underlying66 h 6 rfl rfl rfl (k := 15)
  refine ⟨⟨⟨a0, a1, f.1, p 0, p 1, a4, a5, a6⟩, f.2⟩, fun o v hv => ?_⟩
  match o, hv with
  | 0, hv => exact ca0 _ hv
  | 1, hv => exact ca1 _ hv
  | 2, hv => exact r2 0 _ (gu (by omega) hv)
  | 3, hv => exact r2 1 _ (gu (by omega) hv)
  | 4, hv => exact r2 2 _ (gu (by omega) hv)
  | 5, hv => exact r2 3 _ (gu (by omega) hv)
  | 6, hv => exact r2 4 _ (gu (by omega) hv)
  | 7, hv => exact r2 5 _ (gu (by omega) hv)
  | 8, hv => exact r2 6 _ (gu (by omega) hv)
  | 9, hv => exact r2 7 _ (gu (by omega) hv)
  | 10, hv => exact r2 8 _ (gu (by omega) hv)
  | 11, hv => exact r3 0 _ (gu (by omega) hv)
  | 12, hv => exact r3 1 _ (gu (by omega) hv)
  | 13, hv => exact ca4 _ hv
  | 14, hv => exact ca5 _ hv
  | 15, hv => exact ca6 _ hv
  | o + 16, hv => rw [List.getElem?_eq_none (by omega)] at hv; cases hv
set_option maxRecDepth 100000 in
theorem Yy {c : Value} {n : Nat} {y : DataW H × List MemPlace} (h : DataW.trod enc Tryz.prog w base spare held n 37 [c] = some y) : ∃ (k : Nat) (s : Nat -> Ot), k <= 9223372036854775807 /\ Rd w (Zw w) c (.lst 9 k (dN fun i => (s i).1)) :=
  kR Tryz.underlying37 w9 (by omega) (fun (z : Ot) o => ZE z.1 o) (fun n cs y h hl => Bz h) h
set_option maxRecDepth 100000 in
theorem Yj {c : Value} {n : Nat} {y : DataW H × List MemPlace} (h : DataW.trod enc Tryz.prog w base spare held n 56 [c] = some y) : ∃ (k : Nat) (s : Nat -> OpK), k <= 9223372036854775807 /\ Rd w (Zw w) c (.lst 16 k (iR fun i => (s i).1)) :=
  kR Tryz.underlying56 OT (by omega) (fun (z : OpK) o => ajp z.1 o) (fun n cs y h hl => X5 h) h
theorem Eu : Tryz.prog.cellsOf 58 = 3 := by kernel_rfl
set_option maxRecDepth 100000 in
theorem MP {n : Nat} {cs : List Value} {y : DataW H × List MemPlace} (h : DataW.trod enc Tryz.prog w base spare held n 58 cs = some y) : ∃ z : Nf, ∀ (o : Nat) v, cs[o]? = some v -> Rd w (Zw w) v (TA z.1 o) := by
  have hlen : cs.length = 3 := by rw [(yX Tryz.underlying58 h 0 rfl rfl rfl rfl).1, Eu]
  obtain ⟨a0, ca0⟩ := dL Tryz.underlying58 h 0 rfl rfl rfl (k := 0)
  obtain ⟨_, n1, y1, g1⟩ := yX Tryz.underlying58 h 1 rfl rfl rfl (k := 1) (T := 36) Pq
  obtain ⟨c1, k1, e1⟩ := oO Tryz.underlying36 g1
  obtain ⟨q, a, b1, r1⟩ := open_ints' k1
  obtain ⟨_, n2, y2, g2⟩ := yX Tryz.underlying58 h 2 rfl rfl rfl (k := 2) (T := 56) aaY
  obtain ⟨c2, k2, e2⟩ := oO Tryz.underlying56 g2
  obtain ⟨k, s, b2, r2⟩ := Yj k2
  refine ⟨⟨⟨a0, q, a, k, fun i => (s i).1⟩, b1, b2, fun i _ => (s i).2⟩, fun o v hv => ?_⟩
  match o, hv with
  | 0, hv => exact ca0 _ hv
  | 1, hv => rw [e1 _ hv]; exact r1
  | 2, hv => rw [e2 _ hv]; exact r2
  | o + 3, hv => rw [List.getElem?_eq_none (by omega)] at hv; cases hv
set_option maxRecDepth 100000 in
theorem L6 {c : Value} {n : Nat} {y : DataW H × List MemPlace} (h : DataW.trod enc Tryz.prog w base spare held n 26 [c] = some y) : ∃ (k : Nat) (s : Nat -> Nf), k <= 9223372036854775807 /\ Rd w (Zw w) c (.lst 3 k (dK fun i => (s i).1)) :=
  kR Tryz.underlying26 Eu (by omega) (fun (z : Nf) o => TA z.1 o) (fun n cs y h hl => MP h) h
theorem BL : Tryz.prog.cellsOf 28 = 7 := by kernel_rfl
set_option maxRecDepth 100000 in
theorem Ei {n : Nat} {cs : List Value} {y : DataW H × List MemPlace} (h : DataW.trod enc Tryz.prog w base spare held n 28 cs = some y) : ∃ z : ad1, ∀ (o : Nat) v, cs[o]? = some v -> Rd w (Zw w) v (aeY z.1 o) := by
  have hlen : cs.length = 7 := by rw [(yX Tryz.underlying28 h 0 rfl rfl rfl rfl).1, BL]
  obtain ⟨a0, ca0⟩ := dL Tryz.underlying28 h 0 rfl rfl rfl (k := 0)
  obtain ⟨a1, ca1⟩ := dL Tryz.underlying28 h 1 rfl rfl rfl (k := 1)
  obtain ⟨a2, ca2⟩ := dL Tryz.underlying28 h 2 rfl rfl rfl (k := 2)
  obtain ⟨a3, ca3⟩ := dL Tryz.underlying28 h 3 rfl rfl rfl (k := 3)
  obtain ⟨a4, ca4⟩ := dL Tryz.underlying28 h 4 rfl rfl rfl (k := 4)
  obtain ⟨a5, ca5⟩ := dL Tryz.underlying28 h 5 rfl rfl rfl (k := 5)
  obtain ⟨_, n6, y6, g6⟩ := yX Tryz.underlying28 h 6 rfl rfl rfl (k := 6) (T := 26) aez
  obtain ⟨c6, k6, e6⟩ := oO Tryz.underlying26 g6
  obtain ⟨k, s, b6, r6⟩ := L6 k6
  refine ⟨⟨⟨a0, a1, a2, a3, a4, a5, k, fun i => (s i).1⟩, ⟨b6, fun i _ => (s i).2⟩⟩, fun o v hv => ?_⟩
  match o, hv with
  | 0, hv => exact ca0 _ hv
  | 1, hv => exact ca1 _ hv
  | 2, hv => exact ca2 _ hv
  | 3, hv => exact ca3 _ hv
  | 4, hv => exact ca4 _ hv
  | 5, hv => exact ca5 _ hv
  | 6, hv => rw [e6 _ hv]; exact r6
  | o + 7, hv => rw [List.getElem?_eq_none (by omega)] at hv; cases hv
set_option maxRecDepth 100000 in
theorem LB {c : Value} {n : Nat} {y : DataW H × List MemPlace} (h : DataW.trod enc Tryz.prog w base spare held n 23 [c] = some y) : ∃ (k : Nat) (s : Nat -> ad1), k <= 9223372036854775807 /\ Rd w (Zw w) c (.lst 7 k (eP fun i => (s i).1)) :=
  kR Tryz.underlying23 BL (by omega) (fun (z : ad1) o => aeY z.1 o) (fun n cs y h hl => Ei h) h
theorem IJ : Tryz.prog.cellsOf 39 = 13 := by kernel_rfl
set_option maxRecDepth 100000 in
theorem RH {n : Nat} {cs : List Value} {y : DataW H × List MemPlace} (h : DataW.trod enc Tryz.prog w base spare held n 39 cs = some y) : ∃ z : ad9, ∀ (o : Nat) v, cs[o]? = some v -> Rd w (Zw w) v (aa3 z.1 o) := by
  have hlen : cs.length = 13 := by rw [(yX Tryz.underlying39 h 0 rfl rfl rfl rfl).1, IJ]
  obtain ⟨a0, ca0⟩ := dL Tryz.underlying39 h 0 rfl rfl rfl (k := 0)
  obtain ⟨a1, ca1⟩ := dL Tryz.underlying39 h 1 rfl rfl rfl (k := 1)
  obtain ⟨a2, ca2⟩ := dL Tryz.underlying39 h 2 rfl rfl rfl (k := 2)
  obtain ⟨_, n3, y3, g3⟩ := yX Tryz.underlying39 h 3 rfl rfl rfl (k := 3) (T := 35) Ju
  obtain ⟨m, r3⟩ := Rx g3
  obtain ⟨a4, ca4⟩ := dL Tryz.underlying39 h 4 rfl rfl rfl (k := 10)
  obtain ⟨_, n5, y5, g5⟩ := yX Tryz.underlying39 h 5 rfl rfl rfl (k := 11) (T := 36) Pq
  obtain ⟨c5, k5, e5⟩ := oO Tryz.underlying36 g5
  obtain ⟨q, a, b1, r5⟩ := open_ints' k5
  obtain ⟨_, n6, y6, g6⟩ := yX Tryz.underlying39 h 6 rfl rfl rfl (k := 12) (T := 37) abO
  obtain ⟨c6, k6, e6⟩ := oO Tryz.underlying37 g6
  obtain ⟨k, s, b2, r6⟩ := Yy k6
  refine ⟨⟨⟨a0, a1, a2, ⟨m 0, m 1, m 2, m 3, m 4, m 5, m 6⟩, a4, q, a, k, fun i => (s i).1⟩, ⟨b1, b2, fun i _ => (s i).2⟩⟩, fun o v hv => ?_⟩
  match o, hv with
  | 0, hv => exact ca0 _ hv
  | 1, hv => exact ca1 _ hv
  | 2, hv => exact ca2 _ hv
  | 3, hv => exact r3 0 _ (gu (by omega) hv)
  | 4, hv => exact r3 1 _ (gu (by omega) hv)
  | 5, hv => exact r3 2 _ (gu (by omega) hv)
  | 6, hv => exact r3 3 _ (gu (by omega) hv)
  | 7, hv => exact r3 4 _ (gu (by omega) hv)
  | 8, hv => exact r3 5 _ (gu (by omega) hv)
  | 9, hv => exact r3 6 _ (gu (by omega) hv)
  | 10, hv => exact ca4 _ hv
  | 11, hv => rw [e5 _ hv]; exact r5
  | 12, hv => rw [e6 _ hv]; exact r6
  | o + 13, hv => rw [List.getElem?_eq_none (by omega)] at hv; cases hv
set_option maxRecDepth 100000 in
theorem K3 {c : Value} {n : Nat} {y : DataW H × List MemPlace} (h : DataW.trod enc Tryz.prog w base spare held n 22 [c] = some y) : ∃ (k : Nat) (s : Nat -> ad9), k <= 9223372036854775807 /\ Rd w (Zw w) c (.lst 13 k (jq fun i => (s i).1)) :=
  kR Tryz.underlying22 IJ (by omega) (fun (z : ad9) o => aa3 z.1 o) (fun n cs y h hl => RH h) h
theorem ade : Tryz.prog.cellsOf 22 = 1 := by kernel_rfl
theorem adZ : Tryz.prog.cellsOf 23 = 1 := by kernel_rfl
theorem Ke : Tryz.prog.cellsOf 25 = 2 := by kernel_rfl
set_option maxRecDepth 100000 in
theorem Qx {n : Nat} {cs : List Value} {y : DataW H × List MemPlace} (h : DataW.trod enc Tryz.prog w base spare held n 25 cs = some y) : ∃ z : aj, z.Ok /\ ∀ (o : Nat) v, cs[o]? = some v -> Rd w (Zw w) v (match o with | 0 => .lst 13 z.k (jq z.S) | _ => .lst 7 z.n (eP z.N)) := by
  have hlen : cs.length = 2 := by rw [(yX Tryz.underlying25 h 0 rfl rfl rfl rfl).1, Ke]
  obtain ⟨_, n0, y0, g0⟩ := yX Tryz.underlying25 h 0 rfl rfl rfl (k := 0) (T := 22) ade
  obtain ⟨c0, k0, e0⟩ := oO Tryz.underlying22 g0
  obtain ⟨a, b, c, r0⟩ := K3 k0
  obtain ⟨_, n1, y1, g1⟩ := yX Tryz.underlying25 h 1 rfl rfl rfl (k := 1) (T := 23) adZ
  obtain ⟨c1, k1, e1⟩ := oO Tryz.underlying23 g1
  obtain ⟨q, u, x, r1⟩ := LB k1
  refine ⟨⟨a, fun i => (b i).1, q, fun i => (u i).1⟩, ⟨c, fun i _ => (b i).2, x, fun i _ => (u i).2⟩, fun o v hv => ?_⟩
  match o, hv with
  | 0, hv => rw [e0 _ hv]; exact r0
  | 1, hv => rw [e1 _ hv]; exact r1
  | o + 2, hv => rw [List.getElem?_eq_none (by omega)] at hv; cases hv
theorem aa2 {α : Type} {cs : Array α} (h : cs.size = 7) : ∃ c0 c1 c2 c3 c4 c5 c6, cs = #[c0, c1, c2, c3, c4, c5, c6] := by
  obtain ⟨l⟩ := cs
  match l, h with
  | [c0, c1, c2, c3, c4, c5, c6], _ => exact ⟨c0, c1, c2, c3, c4, c5, c6, rfl⟩
set_option maxRecDepth 100000 in
theorem Cc (hv : Value.okWide Tryz.prog w r b0 28 v) (h : DataW.Trod enc Tryz.prog w base spare held 28 v d p) : ∃ z : ah, z.Ok /\ dJ w (Zw w) v (.agg [.g (.int .i64 z.oc), .g (.int .i64 z.nu), .g (.int .i64 z.kd), .g (.int .i64 z.fr), .g (.int .i64 z.un), .g (.int .i64 z.ca), .lst 3 z.n (dK z.p)]) := by
  obtain ⟨cs, rfl, hsz⟩ := okWide_struct Tryz.underlying28 hv
  obtain ⟨c0, c1, c2, c3, c4, c5, c6, rfl⟩ := aa2 (hsz.trans BL)
  obtain ⟨fuel, hf⟩ := h
  obtain ⟨⟨z, hN⟩, hz⟩ := Ei (cs := [c0, c1, c2, c3, c4, c5, c6]) (by simpa [Value.cells] using hf)
  exact ⟨z, hN, _, rfl, hz 0 c0 rfl, hz 1 c1 rfl, hz 2 c2 rfl, hz 3 c3 rfl, hz 4 c4 rfl, hz 5 c5 rfl, hz 6 c6 rfl, trivial⟩
theorem ab2 {α : Type} {cs : Array α} (h : cs.size = 2) : ∃ c0 c1, cs = #[c0, c1] := by
  obtain ⟨l⟩ := cs
  match l, h with
  | [c0, c1], _ => exact ⟨c0, c1, rfl⟩
set_option maxRecDepth 100000 in
theorem C8 (hv : Value.okWide Tryz.prog w r b0 25 v) (h : DataW.Trod enc Tryz.prog w base spare held 25 v d p) : ∃ z : aj, z.Ok /\ dJ w (Zw w) v (.agg [.lst 13 z.k (jq z.S), .lst 7 z.n (eP z.N)]) := by
  obtain ⟨cs, rfl, hsz⟩ := okWide_struct Tryz.underlying25 hv
  obtain ⟨c0, c1, rfl⟩ := ab2 (hsz.trans Ke)
  obtain ⟨fuel, hf⟩ := h
  obtain ⟨z, hN, hz⟩ := Qx (cs := [c0, c1]) (by simpa [Value.cells] using hf)
  exact ⟨z, hN, _, rfl, hz 0 c0 rfl, hz 1 c1 rfl, trivial⟩
set_option maxRecDepth 100000 in
theorem Vo (hv : Value.okWide Tryz.prog w r b0 5 v) (h : DataW.Trod enc Tryz.prog w base spare held 5 v d p) : ∃ x : Int, v = .int .u8 x /\ (0 <= x /\ x <= 255) := by
  obtain ⟨x, hx, _, _, wx⟩ := open_int Tryz.underlying5 hv h
  refine ⟨x, hx, ?_⟩
  simp [Lit.wf, IntKind.min, IntKind.max, IntKind.signed, IntKind.bits] at wx
  omega
end
end Go.Proofs.YtcfechepbamhkaaGreat
set_option maxRecDepth 100000
set_option maxHeartbeats 4000000
namespace Go.Proofs.YtcfechepbamhkaaGreat
open Go.RowKit Go.Sea
open Nat renaming reduceAdd -> xA, reduceLT -> xL, reduceLeDiff -> xD, reduceEqDiff -> xE, reduceMul -> xM, reduceSub -> xS, reduceBEq -> xB
theorem ada : aN Tryz.prog 77 = true := by kernel_rfl
attribute [go_sem] ada
def dH (s : aH) (n : Nat) (N : Nat -> ah) : Nat := j3 (fun i => nJ s (N i) && decide (oW s (N i) = 0)) n
theorem OX (s : aH) (n : Nat) (N : Nat -> ah) : dH s n N <= n := qJ _ n
theorem Tm {s : aH} {n : Nat} {N : Nat -> ah} {i : Nat} (hi : i < n) (h : nJ s (N i) = true) (h2 : oW s (N i) = 0) (g : ∀ j, j < i -> (nJ s (N j) && decide (oW s (N j) = 0)) = false) : dH s n N = i :=
  lC (b := fun i => nJ s (N i) && decide (oW s (N i) = 0)) (by rw [h, h2]; rfl) g _ hi
theorem VW {s : aH} {n : Nat} {N : Nat -> ah} (g : ∀ j, j < n -> (nJ s (N j) && decide (oW s (N j) = 0)) = false) : dH s n N = n := sF _ g
theorem Ns {s : aH} {n : Nat} {N : Nat -> ah} (h : dH s n N < n) : nJ s (N (dH s n N)) = true /\ oW s (N (dH s n N)) = 0 := by
  have := (jD (b := fun i => nJ s (N i) && decide (oW s (N i) = 0)) (k := n)).2 h
  simp only [Bool.and_eq_true, decide_eq_true_eq] at this
  exact this
theorem YI {s : aH} {n : Nat} {N : Nat -> ah} {j : Nat} (h : j < dH s n N) : (nJ s (N j) && decide (oW s (N j) = 0)) = false := (jD (b := fun i => nJ s (N i) && decide (oW s (N i) = 0)) (k := n)).1 j h
def nxW (s : aH) (n : Nat) (N : Nat -> ah) : aH := mU s (N (dH s n N))
def qZ (s : aH) (n : Nat) (N : Nat -> ah) : Nat -> aH
  | 0 => s
  | j + 1 => nxW (qZ s n N j) n N
def YS (s : aH) (n : Nat) (N : Nat -> ah) : Nat := j3 (fun j => decide (dH (qZ s n N j) n N = n)) (201 + 0 * s.q)
def rQ (s : aH) (n : Nat) (N : Nat -> ah) : aH := qZ s n N (YS s n N)
theorem akO {s : aH} {N : ah} (h : oW s N ≠ 0) : (nJ s N && decide (oW s N = 0)) = false := by rw [decide_eq_false h, Bool.and_false]
def goW (s : aH) (n : Nat) (N : Nat -> ah) (j : Nat) : Prop := ∀ i, i < j -> dH (qZ s n N i) n N < n
theorem ahH {s : aH} {n : Nat} {N : Nat -> ah} : ∀ {j : Nat}, goW s n N j -> (j = 0 \/ gU (qZ s n N j) = true) /\ (qZ s n N j).q = s.q + j /\ (qZ s n N j).ch = s.ch /\ (qZ s n N j).ed = s.ed
  | 0, _ => ⟨Or.inl rfl, rfl, rfl, rfl⟩
  | j + 1, h => by
    have ih := ahH (fun i hi => h i (by omega) : goW s n N j)
    have h1 := Ns (h j (Nat.lt_succ_self j))
    have e : qZ s n N (j + 1) = edS (qZ s n N j) (N (dH (qZ s n N j) n N)) := (UZ h1.2).1
    rw [e]
    refine ⟨Or.inr (afI h1.2).1, ?_, ih.2.2.1, ih.2.2.2⟩
    show (qZ s n N j).q + 1 = _
    rw [ih.2.1]; omega
theorem Ar {s : aH} (h : gU s = true) : s.q <= 200 := by
  unfold gU at h; simp only [Bool.and_eq_true] at h
  exact (of_decide_eq_true h.1.1.1).1
theorem VX {s : aH} {n : Nat} {N : Nat -> ah} {j : Nat} (h : goW s n N j) : j <= 200 := by
  have := ahH h
  rcases this.1 with h0 | h0
  · omega
  · have := Ar h0; omega
theorem agX {s : aH} {n : Nat} {N : Nat -> ah} {j : Nat} (h : goW s n N j) (h2 : dH (qZ s n N j) n N = n) : rQ s n N = qZ s n N j := by
  have e : YS s n N = j := lC (b := fun j => decide (dH (qZ s n N j) n N = n)) (decide_eq_true h2) (fun i hi => decide_eq_false (by have := h i hi; omega)) _ (by have := VX h; omega)
  unfold rQ; rw [e]
theorem Me (s : aH) (n : Nat) (N : Nat -> ah) : goW s n N (YS s n N) /\ dH (rQ s n N) n N = n := by
  have hall := (jD (b := fun j => decide (dH (qZ s n N j) n N = n)) (k := 201 + 0 * s.q))
  have hg : goW s n N (YS s n N) := fun i hi => by
    have := of_decide_eq_false (hall.1 i hi)
    have := OX (qZ s n N i) n N
    omega
  refine ⟨hg, ?_⟩
  have := VX hg
  exact of_decide_eq_true (hall.2 (by show YS s n N < 201 + 0 * s.q; omega))
theorem Ve {s : aH} {n : Nat} {N : Nat -> ah} (h : gU s = true) : gU (rQ s n N) = true /\ (rQ s n N).ch = s.ch /\ (rQ s n N).ed = s.ed := by
  have g := ahH (Me s n N).1
  refine ⟨?_, g.2.2.1, g.2.2.2⟩
  unfold rQ
  rcases g.1 with e | e
  · rw [e]; exact h
  · exact e
theorem X0 : bq.Ok := ⟨by simp [bq], by simp [bq], fun i h => absurd h (Nat.not_lt_zero i)⟩
theorem aeQ (s : aH) (N : ah) : (mU s N).Ok := by
  unfold mU; split
  · exact Zv (afI (by assumption)).1
  · exact X0
theorem FH {i : Nat} {cs : List CV} : ∀ l : List CV, (∀ c, c ∈ l -> j4 c) -> List.map (o9 i cs) l = l
  | [], _ => rfl
  | c :: l, h => by
    have h1 := h c (List.mem_cons_self ..)
    rw [List.map_cons, FH l fun c hc => h c (List.mem_cons_of_mem _ hc)]
    cases c <;> first | rfl | exact h1.elim
theorem KQ {s : aH} {n : Nat} {N : Nat -> ah} (hs : s.Ok) : ∀ j, (qZ s n N j).Ok
  | 0 => hs
  | j + 1 => aeQ _ _
theorem adh {s : aH} {n : Nat} {N : Nat -> ah} (hs : s.Ok) : (rQ s n N).Ok := KQ hs _
def BG (f : aj) : aj := ⟨f.k, fun i => rQ (f.S i) f.n f.N, f.n, f.N⟩
theorem acS {f : aj} (h : f.Ok) : (BG f).Ok := ⟨h.k, fun i hi => adh (h.s i hi), h.n, h.nn⟩
def c13 (s : aH) : List CV := [.iv (.g (.int .i64 s.ch)), .iv (.g (.int .i64 s.sc)), .iv (.g (.int .i64 s.ed)), .iv (.g (.int .i64 s.m.A)), .iv (.g (.int .i64 s.m.B)), .iv (.g (.int .i64 s.m.C)), .iv (.g (.int .i64 s.m.D)), .iv (.g (.int .i64 s.m.E)), .iv (.g (.int .i64 s.m.F)), .iv (.g (.int .i64 s.m.R)), .iv (.g (.int .i64 s.cap)), .iv (.lst 1 s.q (bn s.dn)), .iv (.lst 9 s.n (dN s.f))]
def eZ (l : List aH) : List CV := l.flatMap c13
theorem mW (l : List aH) : ∀ c, c ∈ eZ l -> j4 c := by
  intro c hc
  obtain ⟨s, _, h⟩ := List.mem_flatMap.1 hc
  simp only [c13, List.mem_cons, List.not_mem_nil, or_false] at h
  rcases h with rfl | rfl | rfl | rfl | rfl | rfl | rfl | rfl | rfl | rfl | rfl | rfl | rfl <;> trivial
theorem eX (l : List aH) : (eZ l).length = l.length * 13 := by
  induction l with
  | nil => rfl
  | cons s l ih => show (c13 s ++ eZ l).length = _; rw [List.length_append, ih, List.length_cons]; show 13 + _ = _; omega
theorem gZ (l : List aH) (i : Nat) : List.map (CV.cZ i) (eZ l) = eZ l := mK i (mW l)
theorem uR (l : List aH) (i : Nat) (cs : List CV) : List.map (o9 i cs) (eZ l) = eZ l := FH _ (mW l)
theorem uU : ∀ (l : List aH) (i o : Nat), i < l.length -> o < 13 -> (eZ l).getD (i * 13 + o) .any = (c13 (l.getD i bq)).getD o .any
  | [], i, _, hi, _ => absurd hi (Nat.not_lt_zero i)
  | s :: l, 0, o, _, ho => by
    show (c13 s ++ eZ l).getD (0 * 13 + o) .any = _
    rw [Nat.zero_mul, Nat.zero_add, List.getD, List.getElem?_append_left (by show o < 13; exact ho)]; rfl
  | s :: l, i + 1, o, hi, ho => by
    show (c13 s ++ eZ l).getD ((i + 1) * 13 + o) .any = _
    have e : (i + 1) * 13 + o = 13 + (i * 13 + o) := by omega
    rw [e, List.getD, List.getElem?_append_right (by show 13 <= 13 + (i * 13 + o); omega)]
    show ((eZ l)[13 + (i * 13 + o) - 13]?).getD .any = _
    rw [Nat.add_sub_cancel_left]
    exact uU l i o (by simpa using hi) ho
theorem YQ (l : List aH) : ∀ i o, i < l.length -> o < 13 -> (IE ((eZ l).getD (i * 13 + o) .any)).eqv (aa3 (l.getD i bq) o) := fun i o hi ho => by
  rw [uU l i o hi ho]
  rcases (by omega : o = 0 \/ o = 1 \/ o = 2 \/ o = 3 \/ o = 4 \/ o = 5 \/ o = 6 \/ o = 7 \/ o = 8 \/ o = 9 \/ o = 10 \/ o = 11 \/ o = 12) with rfl | rfl | rfl | rfl | rfl | rfl | rfl | rfl | rfl | rfl | rfl | rfl | rfl <;> exact IV.bf _
end Go.Proofs.YtcfechepbamhkaaGreat
set_option maxRecDepth 100000
set_option maxHeartbeats 4000000
namespace Go.Proofs.YtcfechepbamhkaaGreat
open Go.RowKit Go.Sea
open Nat renaming reduceAdd -> xA, reduceLT -> xL, reduceLeDiff -> xD, reduceEqDiff -> xE, reduceMul -> xM, reduceSub -> xS, reduceBEq -> xB
theorem Ip : aN Tryz.prog 129 = true := by kernel_rfl
theorem VD : aN Tryz.prog 167 = true := by kernel_rfl
theorem alG : fV Tryz.prog 36 = some [.iv (.g (.slice none 0 0))] := by kernel_rfl
attribute [go_sem] Fp Ip afB alG
def Fe (s : aH) (N : Nat -> ah) (i : Nat) : Bool := kD (N i) s.ch && !gq s.q s.dn (N i).nu
def mR (s : aH) (N : Nat -> ah) : Nat -> List Int
  | 0 => []
  | i + 1 => if Fe s N i = true then mR s N i ++ [(N i).nu] else mR s N i
theorem AX (s : aH) (N : Nat -> ah) : mR s N 0 = [] := rfl
theorem agQ {s : aH} {N : Nat -> ah} {i : Nat} (h : Fe s N i = true) : mR s N (i + 1) = mR s N i ++ [(N i).nu] := by show (if _ then _ else _) = _; rw [if_pos h]
theorem Xh {s : aH} {N : Nat -> ah} {i : Nat} (h : Fe s N i = false) : mR s N (i + 1) = mR s N i := by show (if _ then _ else _) = _; rw [if_neg (by rw [h]; simp)]
theorem zq (s : aH) (N : Nat -> ah) : ∀ i, (mR s N i).length <= i
  | 0 => Nat.le_refl _
  | i + 1 => by
    have := zq s N i
    show (if _ then _ else _ : List Int).length <= _
    split
    · simp; omega
    · omega
theorem ahs {s : aH} {N : Nat -> ah} {i : Nat} (h : kD (N i) s.ch = true) (h2 : gq s.q s.dn (N i).nu = false) : Fe s N i = true := by unfold Fe; rw [h, h2]; rfl
theorem abw {s : aH} {N : Nat -> ah} {i : Nat} (h : kD (N i) s.ch = false) : Fe s N i = false := by unfold Fe; rw [h]; rfl
theorem ad8 {s : aH} {N : Nat -> ah} {i : Nat} (h : gq s.q s.dn (N i).nu = true) : Fe s N i = false := by unfold Fe; rw [h]; simp
theorem amA {N : ah} {ch : Int} (h : iQ N ch = true /\ N.kd = 1) : kD N ch = true := by unfold kD; rw [h.1]; simp [h.2]
theorem akB {N : ah} {ch : Int} (h : iQ N ch = false \/ N.kd ≠ 1) : kD N ch = false := by
  unfold kD; rcases h with h | h <;> simp [h]
def zL (l : List Int) (i : Nat) : Int := l.getD i 0
theorem ET (l : List Int) : ∀ i o, i < l.length -> o < 1 -> (IE ((dX l).getD (i + o) .any)).eqv (.g (.int .i64 (zL l i))) := fun i o hi ho => by
  obtain rfl : o = 0 := by omega
  rw [Nat.add_zero, CF _ _ hi]; exact IV.bf _
def LK (s : aH) (n : Nat) (N : Nat -> ah) : List Int := mR s N n
def QG (s : aH) (n : Nat) (N : Nat -> ah) : Bool := gU s && uw n N
theorem alZ {s : aH} {n : Nat} {N : Nat -> ah} (h : QG s n N = false) (hc : gU s = true /\ uw n N = true) : False := by unfold QG at h; rw [hc.1, hc.2] at h; cases h
def upL (N : Nat -> ah) (mst : Int) : Nat -> Int
  | 0 => 0
  | i + 1 => if (N i).nu < mst then (N i).nu else upL N mst i
theorem afR {N : Nat -> ah} {mst : Int} {i : Nat} (h : (N i).nu < mst) : upL N mst (i + 1) = (N i).nu := by show (if _ then _ else _) = _; rw [if_pos h]
theorem afD {N : Nat -> ah} {mst : Int} {i : Nat} (h : mst <= (N i).nu) : upL N mst (i + 1) = upL N mst i := by show (if _ then _ else _) = _; rw [if_neg (by omega)]
def Iw (l : List Int) : Int := if l.length = 0 then 10001 else zL l 0
def UpE (s : aH) (n : Nat) (N : Nat -> ah) : Int := if QG s n N = true then 0 else 1
def UpV (s : aH) (n : Nat) (N : Nat -> ah) : Int := if QG s n N = true then upL N (Iw (mR s N n)) n else 0
theorem agS {s : aH} {n : Nat} {N : Nat -> ah} (h : QG s n N = false) : UpV s n N = 0 /\ UpE s n N = 1 := by unfold UpV UpE; rw [h]; exact ⟨rfl, rfl⟩
theorem amK {s : aH} {n : Nat} {N : Nat -> ah} (h : QG s n N = true) : UpV s n N = upL N (Iw (mR s N n)) n /\ UpE s n N = 0 := by unfold UpV UpE; rw [if_pos h, if_pos h]; exact ⟨rfl, rfl⟩
theorem alL {l : List Int} (h : l.length = 0) : Iw l = 10001 := by unfold Iw; rw [if_pos h]
theorem alc {l : List Int} (h : l.length ≠ 0) : Iw l = zL l 0 := by unfold Iw; rw [if_neg h]
theorem afw (s : aH) (n : Nat) (N : Nat -> ah) (hs : s.Ok) (hn : n <= 9223372036854775807) (hN : ∀ i, i < n -> (N i).Ok) (hv : gU s = true) (hn2 : n <= 1000000) : aA Tryz.prog 84 [(qy s), .one (.lst 7 n (eP N))] (.t (.one (.lst 1 (mR s N n).length (bn (zL (mR s N n)))))) := by
  refine ak Tryz.func84 rfl (by rw [Tryz.ntmps84]; simp) ?_
  simp only [qy, Tryz.ntmps84, zM, PT.tv, au, Nat.zero_add, Nat.reduceAdd]
  repeat' (first
 | ((refine iV ?_ ?_) <;> (intro hc; (try rw [hc]); (try simp only [zB, zC, reduceCtorEq] at hc); (try (exfalso; contradiction))))
 | ((with_reducible show AW _ _ _ _); first
 | (with_reducible first | refine aS (fun K hK => ?_) | refine aI ?_ | refine aX ?_ | refine aT ?_ | refine aC ?_ | refine aB ?_)
 | ((refine eT (k := 167) rfl Tryz.func167 rfl VD (by rw [Tryz.ntmps167]; simp) ?_ ?_ (fun l hlne A B hA hB => ?_)); (focus (simp (maxSteps := 2000000) only [go_sem, reduceIte, reduceCtorEq, xA, xL, xD, xE, xM, xS, xB, Tryz.f84, Tryz.f167, Tryz.f129, bn, bH, fH, bg, maxLen, AX, List.length_append, List.length_cons, List.length_nil]; try exact True.intro)); (focus (simp (maxSteps := 2000000) only [go_sem, reduceIte, reduceCtorEq, xA, xL, xD, xE, xM, xS, xB, Tryz.f84, Tryz.f167, Tryz.f129, bn, bH, fH, bg, maxLen, AX, List.length_append, List.length_cons, List.length_nil]; try exact True.intro)); simp only [Tryz.ntmps167, List.map_cons, List.map_nil, LV.tv, au, yV, Nat.zero_add, Nat.reduceAdd]; clear hlne)
 | (with_reducible refine u7 (by assumption) ?_)
 | (first
 | (with_reducible first | refine aP (ops := #[⟨some 2, _, _, _, _, _⟩, _]) 0 [0,1,12] ?_ | refine aP (ops := #[⟨some 8, _, _, _, _, _⟩, _, _]) 0 [0,1,2] ?_ | refine aP (ops := #[⟨some 2, _, _, _, _, _⟩, _, _]) 0 [0,1] ?_ | refine aP (ops := #[⟨some 5, _, _, _, _, _⟩]) 1 [1,2,12] ?_ | refine aP (ops := #[⟨some 11, _, _, _, _, _⟩]) 1 [0,2,8,9,10] ?_ | refine aP (ops := #[⟨some 5, _, _, _, _, _⟩, _]) 1 [2,3] ?_ | refine aP (ops := #[⟨some 7, _, _, _, _, _⟩, _, _, _, _]) 2 [1,2,5,12] ?_ | refine aP (ops := #[⟨some 12, _, _, _, _, _⟩, _, _, _]) 2 [0,2,8,9,10] ?_ | refine aP (ops := #[⟨some 6, _, _, _, _, _⟩, _]) 3 [2,5,12] ?_ | refine aP (ops := #[⟨some 15, _, _, _, _, _⟩, _, _, _, _, _, _, _, _]) 3 [0,2,5,8,9,10] ?_ | refine aP (ops := #[⟨some 14, _, _, _, _, _⟩, _, _, _, _]) 4 [2,5,6,12] ?_ | refine aP (ops := #[⟨some 20, _, _, _, _, _⟩, _, _, _, _, _, _, _, _, _, _, _, _]) 4 [0,2,5,6,7,8,9,10] ?_ | refine aP (ops := #[⟨some 19, _, _, _, _, _⟩, _, _, _, _, _]) 5 [2,5,6,12] ?_ | refine aP (ops := #[⟨some 33, _, _, _, _, _⟩, _]) 5 [0,2,8,9,10] ?_ | refine aP 6 [5] ?_))
 | ((with_reducible show AW _ (Code.loop _) _ _); first
 | ((with_reducible refine aL (c := (Code.seq (Code.region 1 _ _) _)) (ι := Nat) [0,2,8,9] (fun i => [(10, iA .i64 (i : Int))]) (fun i => [(1, [.slc 8 0 (mR s N i).length 1]), (8, dX (mR s N i))]) (fun i => i <= n) (fun i => n - i) 0 ?lg1 ?l11 ?l21 ?li1 ?lr1); (case' lg1 => rintro i _); (case' li1 => try (omega)); (case' lr1 => rintro i hi KR hR1; have oL := zq s N i; simp only [bI, dI, hset, lk, if_true, if_false, xE, reduceIte, zN, bH, fH, bg, maxLen, AX, List.length_append, List.length_cons, List.length_nil]))))
 | ((first | (with_reducible refine And.intro ?_ ?_) | (with_reducible refine Need.mk ?_)); focus (first | exact True.intro | omega))
 | (with_reducible refine aJ ?_)
 | ((with_reducible show bL _ _ _ _ _ _); first
 | ((with_reducible refine aM ?_ ?_) <;> (intro hc; (try simp only [zB, zC, reduceCtorEq] at hc); ((try (have hNi := (hN i (by omega)).n)); (try (have e0 : n = i := (by omega); subst e0))); (try (exfalso; contradiction)))))
 | ((with_reducible show aQ _ _ _ _ _ _ _ _ _ _); first
 | (refine aF (k := 96) uS (Gs (N i) s.ch (hN i (by omega))) ?_ ?_)
 | (refine aF (k := 98) zI (UY s _ hs hv) ?_ ?_)
 | ((refine dA (k := 129) Tryz.func129 rfl Ip (by rw [Tryz.ntmps129]; simp) ?_ ?_ (fun K hK => ?_)); (focus (exact True.intro)); (focus ((simp [jF]; done))); simp only [Tryz.ntmps129, List.map_cons, List.map_nil, List.nil_append, List.cons_append, List.append_nil, LV.tv, au, Nat.zero_add, Nat.reduceAdd]))
 | ((with_reducible refine hR1 _ (i + 1) ?_); (try clear hR1 KR))
 | ((with_reducible refine Told.mk ?_); simp only [go_sem, reduceIte, reduceCtorEq, xA, xL, xD, xE, xM, xS, xB, bn, bH, fH, bg, maxLen, AX, List.length_append, List.length_cons, List.length_nil] <;> ((((try simp (disch := omega) only [aV, Int.natCast_add, Int.cast_ofNat_Int, and_true, true_and, and_self]); (repeat' (first | omega | rfl | (with_reducible refine And.intro ?_ ?_) | ((first | rw [Xh (abw (akB (by assumption)))] | rw [agQ (ahs (amA (by assumption)) (by assumption))] | rw [Xh (ad8 (by assumption))])) | ((exact kY rfl (iO _))) | ((simp only [List.length_append, List.length_cons, List.length_nil, Nat.zero_add]; done)))); done))))
 | ((fail_if_success (with_reducible show AW _ _ _ _)); simp (maxSteps := 2000000) only [go_sem, reduceIte, reduceCtorEq, xA, xL, xD, xE, xM, xS, xB, Tryz.f84, Tryz.f167, Tryz.f129, bn, bH, fH, bg, maxLen, AX, List.length_append, List.length_cons, List.length_nil])
 | ((with_reducible show aQ _ _ _ _ _ _ (.yld _) _ _ _); (refine lS (by simp only [EG, if_true]; exact rfl) ?_ (by simp) ?_ ?_ (fun K hK => ?_)); (focus (exact True.intro)); (focus (simp [ng])); (focus ((simp [jF]; done))); simp only [jm, gf, if_true, Nat.reduceAdd])
 | ((with_reducible refine hK _ ?_); clear hK K)
 | (with_reducible apply_assumption -exfalso only [*]))
  all_goals ((exact ⟨fun c hc9 => (by have := iO _ c hc9; cases c <;> trivial), fun i o hi ho => ET _ i o hi ho⟩))
end Go.Proofs.YtcfechepbamhkaaGreat
set_option maxRecDepth 100000
set_option maxHeartbeats 4000000
namespace Go.Proofs.YtcfechepbamhkaaGreat
open Go.RowKit Go.Sea
open Nat renaming reduceAdd -> xA, reduceLT -> xL, reduceLeDiff -> xD, reduceEqDiff -> xE, reduceMul -> xM, reduceSub -> xS, reduceBEq -> xB
theorem Kl : aN Tryz.prog 111 = true := by kernel_rfl
theorem TN : aN Tryz.prog 125 = true := by kernel_rfl
theorem NJ : aN Tryz.prog 62 = true := by kernel_rfl
theorem afg : aN Tryz.prog 63 = true := by kernel_rfl
theorem ajI : fM Tryz.prog 109 = true := by kernel_rfl
theorem ahG : Hu Tryz.prog 108 = none := by kernel_rfl
theorem agC : mpE Tryz.prog 108 = some 4 := by kernel_rfl
theorem YX : dz Tryz.prog 109 0 = some (0, 1) := by kernel_rfl
theorem X8 : dz Tryz.prog 109 1 = some (1, 1) := by kernel_rfl
theorem ahE : fV Tryz.prog 109 = some [.iv (.g (.int .i64 0)), .iv (.g (.int .i64 0))] := by kernel_rfl
theorem anV : zPT Tryz.prog 4 = some (.one (.g (.bool false))) := by kernel_rfl
attribute [go_sem] Kl TN NJ ajI ahG agC YX X8 ahE anV
def ajf (N : ah) (t : Int) : Bool := decide (N.kd = 3 \/ N.kd = 2 /\ t < N.un)
def vV (n : Nat) (N : Nat -> ah) (t o u : Int) : Bool := decide (∃ j, j < n /\ ((N j).kd = 4 /\ (N j).fr <= t) /\ (N j).oc = o /\ (N j).ca = u)
def vU (N : Nat -> ah) (t : Int) (i : Nat) (a b : Int) : Option PT := if vV i N t a b = true then some (.one (.g (.bool true))) else none
theorem Av (N : Nat -> ah) (t : Int) : vU N t 0 = fun _ _ => none := by
  funext a b; unfold vU; rw [if_neg]; intro h; obtain ⟨j, hj, _⟩ := of_decide_eq_true h; exact Nat.not_lt_zero j hj
theorem agA {N : Nat -> ah} {t : Int} {i : Nat} (h : (N i).kd = 4 /\ (N i).fr <= t) : o7 (vU N t i) ((N i).oc, (N i).ca) (.one (.g (.bool true))) = vU N t (i + 1) := by
  funext a b
  unfold o7 vU
  by_cases hk : a = (N i).oc /\ b = (N i).ca
  · rw [if_pos hk, if_pos]
    exact decide_eq_true ⟨i, Nat.lt_succ_self i, h, hk.1.symm, hk.2.symm⟩
  · rw [if_neg hk]
    have e : vV i N t a b = vV (i + 1) N t a b := by
      unfold vV; rw [Bool.eq_iff_iff, decide_eq_true_eq, decide_eq_true_eq]
      constructor
      · rintro ⟨j, hj, g⟩; exact ⟨j, by omega, g⟩
      · rintro ⟨j, hj, g⟩
        rcases Nat.lt_or_ge j i with q | q
        · exact ⟨j, q, g⟩
        · obtain rfl : j = i := by omega
          exact absurd ⟨g.2.1.symm, g.2.2.symm⟩ hk
    rw [e]
theorem aie {N : Nat -> ah} {t : Int} {i : Nat} (h : (N i).kd ≠ 4 \/ t < (N i).fr) : vU N t (i + 1) = vU N t i := by
  funext a b
  have e : vV (i + 1) N t a b = vV i N t a b := by
    unfold vV; rw [Bool.eq_iff_iff, decide_eq_true_eq, decide_eq_true_eq]
    constructor
    · rintro ⟨j, hj, g⟩
      rcases Nat.lt_or_ge j i with q | q
      · exact ⟨j, q, g⟩
      · obtain rfl : j = i := by omega
        exfalso
        rcases h with h | h
        · exact h g.1.1
        · have := g.1.2; omega
    · rintro ⟨j, hj, g⟩; exact ⟨j, by omega, g⟩
  unfold vU; rw [e]
theorem ahI {n : Nat} {N : Nat -> ah} {t a b : Int} (h : vV n N t a b = true) : vU N t n a b = some (.one (.g (.bool true))) := by unfold vU; rw [if_pos h]
theorem ahu {n : Nat} {N : Nat -> ah} {t a b : Int} (h : vV n N t a b = false) : vU N t n a b = none := by unfold vU; rw [if_neg (by rw [h]; simp)]
def yw (n : Nat) (N : Nat -> ah) (t : Int) (i : Nat) : Bool := ajf (N i) t && decide ((N i).fr <= t) && !vV n N t (N i).oc (N i).nu
def rZ (n : Nat) (N : Nat -> ah) (t : Int) : Nat -> List Int
  | 0 => []
  | i + 1 => if yw n N t i = true then rZ n N t i ++ [(i : Int)] else rZ n N t i
theorem Dj (n : Nat) (N : Nat -> ah) (t : Int) : rZ n N t 0 = [] := rfl
theorem agp {n : Nat} {N : Nat -> ah} {t : Int} {i : Nat} (h : yw n N t i = true) : rZ n N t (i + 1) = rZ n N t i ++ [(i : Int)] := by show (if _ then _ else _) = _; rw [if_pos h]
theorem M7 {n : Nat} {N : Nat -> ah} {t : Int} {i : Nat} (h : yw n N t i = false) : rZ n N t (i + 1) = rZ n N t i := by show (if _ then _ else _) = _; rw [if_neg (by rw [h]; simp)]
theorem E8 (n : Nat) (N : Nat -> ah) (t : Int) : ∀ i, (rZ n N t i).length <= i
  | 0 => Nat.le_refl _
  | i + 1 => by
    have := E8 n N t i
    show (if _ then _ else _ : List Int).length <= _
    split
    · simp; omega
    · omega
theorem ams {n : Nat} {N : Nat -> ah} {t : Int} {i : Nat} (h : (N i).fr <= t) (h2 : vV n N t (N i).oc (N i).nu = false) (h3 : (N i).kd = 3 \/ (N i).kd = 2 /\ t < (N i).un) : yw n N t i = true := by
  unfold yw ajf; rw [h2, decide_eq_true h, decide_eq_true h3]; rfl
theorem ajb {n : Nat} {N : Nat -> ah} {t : Int} {i : Nat} (h : t < (N i).fr) : yw n N t i = false := by
  unfold yw; rw [decide_eq_false (by omega), Bool.and_false]; rfl
theorem ajM {n : Nat} {N : Nat -> ah} {t : Int} {i : Nat} (h : vV n N t (N i).oc (N i).nu = true) : yw n N t i = false := by
  unfold yw; rw [h]; simp
theorem aiX {n : Nat} {N : Nat -> ah} {t : Int} {i : Nat} (h : ¬ ((N i).kd = 3 \/ (N i).kd = 2 /\ t < (N i).un)) : yw n N t i = false := by
  unfold yw ajf; rw [decide_eq_false h]; rfl
theorem ajw {n : Nat} {N : Nat -> ah} {t : Int} {i : Nat} (h : (N i).kd ≠ 3 /\ ((N i).kd ≠ 2 \/ (N i).un <= t)) : yw n N t i = false := aiX (by omega)
def acB (n : Nat) (N : Nat -> ah) (t : Int) : Bool := decide (n <= 200 /\ (0 <= t /\ t <= 10000000) /\ ∀ i, i < n -> gD (N i) = true)
def Y6 (n : Nat) (N : Nat -> ah) (t : Int) : Int := if acB n N t = true then 0 else 1
def mP (n : Nat) (N : Nat -> ah) (t : Int) : List Int := if acB n N t = true then rZ n N t n else []
theorem aj1 {n : Nat} {N : Nat -> ah} {t : Int} (h : acB n N t = false) : mP n N t = [] /\ Y6 n N t = 1 := by unfold mP Y6; rw [h]; exact ⟨rfl, rfl⟩
theorem an1 {n : Nat} {N : Nat -> ah} {t : Int} (h : (n : Int) > 200 \/ ¬ (0 <= t /\ t <= 10000000)) : mP n N t = [] /\ Y6 n N t = 1 := aj1 (decide_eq_false fun g => by omega)
theorem anm {n : Nat} {N : Nat -> ah} {t : Int} {i : Nat} (hi : (i : Int) < n) (h : gD (N i) = false) : mP n N t = [] /\ Y6 n N t = 1 := aj1 (decide_eq_false fun g => by have := g.2.2 i (by omega); rw [h] at this; cases this)
theorem an7 {n : Nat} {N : Nat -> ah} {t : Int} {i : Nat} (h : (n : Int) <= 200 /\ (0 <= t /\ t <= 10000000)) (hi : (n : Int) <= i) (g : ∀ j, j < i -> gD (N j) = true) : mP n N t = rZ n N t n /\ Y6 n N t = 0 := by
  have e : acB n N t = true := decide_eq_true ⟨by omega, h.2, fun j hj => g j (by omega)⟩
  unfold mP Y6; rw [e]; exact ⟨rfl, rfl⟩
theorem ai9 (M : ah) (hM : M.Ok) : aA Tryz.prog 63 [.agg [.g (.int .i64 M.oc), .g (.int .i64 M.nu), .g (.int .i64 M.kd), .g (.int .i64 M.fr), .g (.int .i64 M.un), .g (.int .i64 M.ca), .lst 3 M.n (dK M.p)]] (.t (.one (.g (.bool (!gD M))))) := by
  refine ak Tryz.func63 rfl (by rw [Tryz.ntmps63]; simp) ?_
  simp only [Tryz.ntmps63, zM, PT.tv, au, Nat.zero_add, Nat.reduceAdd]
  repeat' (first
 | ((with_reducible show AW _ _ _ _); first
 | (with_reducible first | refine aS (fun K hK => ?_) | refine aT ?_)
 | (first
 | (with_reducible first | refine aP 0 [0] ?_ | refine aP 1 [1] ?_)))
 | (((with_reducible refine Need.mk ?_)); focus (exact True.intro))
 | (with_reducible refine aJ ?_)
 | ((with_reducible show aQ _ _ _ _ _ _ _ _ _ _); first
 | (refine aF (k := 18) iP (nX M hM) ?_ ?_))
 | ((fail_if_success (with_reducible show AW _ _ _ _)); simp (maxSteps := 2000000) only [go_sem, reduceIte, reduceCtorEq, xA, xL, xD, xE, xM, xS, xB, Tryz.f63, bn])
 | ((with_reducible refine hK _ ?_); clear hK K))
theorem akH (n : Nat) (N : Nat -> ah) (hn : n <= 9223372036854775807) (hN : ∀ i, i < n -> (N i).Ok) (t : Int) : aA Tryz.prog 22 [.one (.lst 7 n (eP N)), .one (.g (.int .i64 t))] (.tup [.one (.lst 1 (mP n N t).length (bn (zL (mP n N t)))), .one (.g (.int .i64 (Y6 n N t)))]) := by
  have hfk : True := trivial
  have mk1 : True := trivial
  refine ak Tryz.func22 rfl (by rw [Tryz.ntmps22]; simp) ?_
  simp only [Tryz.ntmps22, zM, PT.tv, au, Nat.zero_add, Nat.reduceAdd]
  repeat' (first
 | ((with_reducible show AW _ _ _ _); first
 | (with_reducible first | refine aS (fun K hK => ?_) | refine aI ?_ | refine aX ?_ | refine aT ?_ | refine aC ?_ | refine aB ?_)
 | (first
 | (with_reducible first | refine aP 0 [0,1] ?_ | refine aP (ops := #[⟨some 12, _, _, _, _, _⟩, _, _, _, _, _, _, _, _, _, _, _]) 1 [0,1] ?_ | refine aP (ops := #[⟨some 5, _, _, _, _, _⟩, _, _, _, _]) 1 [0,1] ?_ | refine aP (ops := #[⟨some 6, _, _, _, _, _⟩, _, _]) 1 [0,1] ?_ | refine aP (ops := #[⟨some 4, _, _, _, _, _⟩, _]) 2 [] ?_ | refine aP (ops := #[⟨some 9, _, _, _, _, _⟩]) 2 [0,1,7,8] ?_ | refine aP (ops := #[⟨some 24, _, _, _, _, _⟩, _]) 3 [0,1] ?_ | refine aP (ops := #[⟨some 10, _, _, _, _, _⟩, _]) 3 [0,1,7,8] ?_ | refine aP (ops := #[⟨some 25, _, _, _, _, _⟩, _, _]) 4 [0,1,6] ?_ | refine aP (ops := #[⟨some 11, _, _, _, _, _⟩, _, _, _, _, _]) 4 [0,1,5,7,8] ?_ | refine aP (ops := #[⟨some 28, _, _, _, _, _⟩]) 5 [0,1,6,25,26,27] ?_ | refine aP (ops := #[⟨some 17, _, _, _, _, _⟩, _]) 5 [5] ?_ | refine aP (ops := #[⟨some 29, _, _, _, _, _⟩, _, _, _]) 6 [0,1,6,25,26,27] ?_ | refine aP (ops := #[⟨some 18, _, _, _, _, _⟩, _]) 6 [0,1,7,8] ?_ | refine aP (ops := #[⟨some 31, _, _, _, _, _⟩, _, _, _, _, _, _, _, _]) 7 [0,1,6,8,25,26,27] ?_ | refine aP (ops := #[⟨some 4, _, _, _, _, _⟩]) 7 [] ?_ | refine aP 8 [0,1,6,8,25,26,27] ?_ | refine aP 9 [0,1,6,25,26,27] ?_ | refine aP 10 [0,1,6] ?_ | refine aP 11 [0,1,6,9] ?_ | refine aP 12 [1,6,9,47,48,49] ?_ | refine aP 13 [1,6,9,47,48,49] ?_ | refine aP 14 [1,6,9,10,11,47,48,49] ?_ | refine aP 15 [1,6,9,10,11,47,48,49] ?_ | refine aP 16 [1,6,9,10,47,48,49] ?_ | refine aP 17 [1,6,9,47,48,49] ?_ | refine aP 18 [9] ?_))
 | ((with_reducible show AW _ (Code.loop _) _ _); first
 | ((with_reducible refine aL (c := (Code.seq (Code.region 2 _ _) _)) (ι := Nat) [0,1,7] (fun j => [(8, iA .i64 (j : Int))]) (fun j => []) (fun j => j <= n /\ (∀ i, i < j -> gD (N i) = true)) (fun j => n - j) 0 ?lg2 ?l12 ?l22 ?li2 ?lr2); (case' lg2 => rintro j _); (case' li2 => try (exact ⟨Nat.zero_le _, fun i hi => absurd hi (Nat.not_lt_zero _)⟩)); (case' lr2 => rintro j ⟨hj, hai⟩ KR hR2; simp only [bI, dI, hset, lk, if_true, if_false, xE, reduceIte, zN, Dj, bH, fH, bg, maxLen, List.length_append, hfk, Av]))
 | ((with_reducible refine aL (c := (Code.seq (Code.region 5 _ _) _)) (ι := Nat) [0,1,6,25,26] (fun u => [(27, iA .i64 (u : Int))]) (fun u => [(0, [.m2 (vU N t u)])]) (fun u => u <= n) (fun u => n - u) 0 ?lg5 ?l15 ?l25 ?li5 ?lr5); (case' lg5 => rintro u _); (case' li5 => try (omega)); (case' lr5 => rintro u hu KR hR5; simp only [bI, dI, hset, lk, if_true, if_false, xE, reduceIte, zN, Dj, bH, fH, bg, maxLen, List.length_append, hfk, Av]))
 | ((with_reducible refine aL (c := (Code.seq (Code.region 12 _ _) _)) (ι := Nat) [1,6,47,48] (fun i => [(9, .t (.one (.slc 1 0 (rZ n N t i).length 1))), (49, iA .i64 (i : Int))]) (fun i => [(1, dX (rZ n N t i))]) (fun i => i <= n) (fun i => n - i) 0 ?lg12 ?l112 ?l212 ?li12 ?lr12); (case' lg12 => rintro i _); (case' li12 => try (omega)); (case' lr12 => rintro i hi KR hR12; have oL := E8 n N t i; simp only [bI, dI, hset, lk, if_true, if_false, xE, reduceIte, zN, Dj, bH, fH, bg, maxLen, List.length_append, hfk, Av]))))
 | ((first | (with_reducible refine And.intro ?_ ?_) | (with_reducible refine Need.mk ?_)); focus (first | exact True.intro | omega | (intro _; (with_reducible assumption)) | (simp; done) | (simp; omega)))
 | (with_reducible refine aJ ?_)
 | ((with_reducible show bL _ _ _ _ _ _); first
 | ((with_reducible refine aM ?_ ?_) <;> (intro hc; (try simp only [zB, zC, reduceCtorEq] at hc); ((try (have e0 : n = i := (by omega); subst e0)); (try (have e1 : n = u := (by omega); subst e1)); (try (clear mk1; clear hfk; cases hq : vV n N t (N i).oc (N i).nu; all_goals (first | (have hfk := ahI hq) | (have hfk := ahu hq))))); (try (exfalso; omega)))))
 | ((with_reducible show aQ _ _ _ _ _ _ _ _ _ _); first
 | (refine aF (k := 63) afg (ai9 (N j) (hN j (by omega))) ?_ ?_)
 | ((refine dA (k := 62) Tryz.func62 rfl NJ (by rw [Tryz.ntmps62]; simp) ?_ ?_ (fun K hK => ?_)); (focus ((simp; omega))); (focus ((simp [jF]; done))); simp only [Tryz.ntmps62, List.map_cons, List.map_nil, List.nil_append, List.cons_append, List.append_nil, LV.tv, au, Nat.zero_add, Nat.reduceAdd])
 | ((refine dA (k := 111) Tryz.func111 rfl Kl (by rw [Tryz.ntmps111]; simp) ?_ ?_ (fun K hK => ?_)); (focus (exact True.intro)); (focus ((simp [jF]; done))); simp only [Tryz.ntmps111, List.map_cons, List.map_nil, List.nil_append, List.cons_append, List.append_nil, LV.tv, au, Nat.zero_add, Nat.reduceAdd]))
 | ((with_reducible show bG _ _ _ _ _ _ _ _ _ _); first
 | (refine aO (k := 51) zS (fun hg => Bd _) ?_ ?_)
 | ((refine iL (k := 62) ?_ ?_) <;> (intro hc; (try simp only [zB, zC, reduceCtorEq] at hc); (try (exfalso; contradiction)))))
 | ((with_reducible refine hR2 _ (j + 1) ?_); (try clear hR2 KR))
 | ((with_reducible refine hR5 _ (u + 1) ?_); (try clear hR5 KR))
 | ((with_reducible refine hR12 _ (i + 1) ?_); (try clear hR12 KR))
 | ((with_reducible refine Told.mk ?_); simp only [go_sem, reduceIte, reduceCtorEq, xA, xL, xD, xE, xM, xS, xB, bn, Dj, bH, fH, bg, maxLen, List.length_append, hfk, Av] <;> (first | (((try simp (disch := omega) only [aV, Int.natCast_add, Int.cast_ofNat_Int, and_true, true_and, and_self]); (repeat' (first | omega | rfl | (with_reducible refine And.intro ?_ ?_) | (exact all_succ (by assumption) (by assumption)))); done)) | (((try simp (disch := omega) only [aV, Int.natCast_add, Int.cast_ofNat_Int, and_true, true_and, and_self]); (repeat' (first | omega | (with_reducible refine And.intro ?_ ?_) | ((exact Or.inl (by rw [agA (by assumption)]))) | ((exact Or.inl (by rw [aie (by assumption)]))))); done)) | (((try simp (disch := omega) only [aV, Int.natCast_add, Int.cast_ofNat_Int, and_true, true_and, and_self]); (repeat' (first | omega | (with_reducible refine And.intro ?_ ?_) | ((first | rw [agp (ams (by assumption) (by assumption) (by assumption))] | rw [M7 (ajw (by assumption))] | rw [M7 (ajb (by assumption))] | rw [M7 (ajM (by assumption))])) | ((exact kY rfl (iO _))) | ((simp only [List.length_append, List.length_cons, List.length_nil, Nat.zero_add]; done)))); done))))
 | ((fail_if_success (with_reducible show AW _ _ _ _)); simp (maxSteps := 2000000) only [go_sem, reduceIte, reduceCtorEq, xA, xL, xD, xE, xM, xS, xB, Tryz.f22, Tryz.f62, Tryz.f111, bn, Dj, bH, fH, bg, maxLen, List.length_append, hfk, Av])
 | ((with_reducible refine hK _ ?_); clear hK K)
 | (with_reducible apply_assumption -exfalso only [*]))
  all_goals (first | (have e := an1 (n := n) (N := N) (t := t) (by assumption); rw [e.1, e.2]; (repeat' (first | exact rfl | (with_reducible refine And.intro ?_ ?_))); done) | (have e := anm (n := n) (N := N) (t := t) (by assumption) (by assumption); rw [e.1, e.2]; (repeat' (first | exact rfl | (with_reducible refine And.intro ?_ ?_))); done) | (have e := an7 (n := n) (N := N) (t := t) (by assumption) (by assumption) hai; rw [e.1, e.2]; (repeat' (first | exact rfl | (with_reducible refine And.intro ?_ ?_) | (intro i q hi hq; exact ET _ i q hi hq) | (exact fun c hc9 => (by have := iO _ c hc9; cases c <;> trivial)))); done))
end Go.Proofs.YtcfechepbamhkaaGreat
