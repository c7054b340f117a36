/- Part 11 of 18: contracts of functions and plain laws for the root text. No condition. -/
import Derived.Test.YtmnejmpjmniiiaaGreatDoorV01
import Derived.Test.YtmnejmpjmniiiaaGreatDoorV02
import Derived.Test.YtmnejmpjmniiiaaGreatDoorV03
import Derived.Test.YtmnejmpjmniiiaaGreatDoorV04
import Derived.Test.YtmnejmpjmniiiaaGreatDoorV05
import Derived.Test.YtmnejmpjmniiiaaGreatDoorV06
import Derived.Test.YtmnejmpjmniiiaaGreatDoorV07
import Derived.Test.YtmnejmpjmniiiaaGreatDoorV08
import Derived.Test.YtmnejmpjmniiiaaGreatDoorV09
import Derived.Test.YtmnejmpjmniiiaaGreatDoorV10
import Derived.Test.YtmnejmpjmniiiaaGreatDoorRows
import Derived.WalkKit
import Derived.ProofKit
import Derived.Lib.SmallJoins
import Derived.Lib.LaidTab
import Derived.MakeChecks
import Derived.Deep.Strs
import Derived.Deep.SlicePairs
import Derived.LaidMore
import Derived.Lib.AppendZeros
import Derived.Laws.Tables
import Derived.Laws.IdiomCopy
import Derived.Laws.AppendOwn
import Derived.Shelf.Spec.TrailingZeros
import Derived.Ground.Names7Prog
import Derived.Test.YtmnejmpjmniiiaaGreatDoorProg
set_option linter.unusedVariables false
set_option linter.unusedSimpArgs false
set_option linter.unusedSectionVars false
set_option linter.deprecated false
set_option maxRecDepth 100000
set_option maxHeartbeats 4000000
namespace Go.Proofs.YtmnejmpjmniiiaaGreatDoor
open Go.RowKit Go.Sea
open Nat renaming reduceAdd -> xA, reduceLT -> xL, reduceLeDiff -> xD, reduceEqDiff -> xE, reduceMul -> xM, reduceSub -> xS, reduceBEq -> xB
theorem Jc : aM Tryz.prog 123 = true := by kernel_rfl
theorem F8 : aM Tryz.prog 124 = true := by kernel_rfl
theorem IY : aM Tryz.prog 125 = true := by kernel_rfl
theorem Vm : aM Tryz.prog 148 = true := by kernel_rfl
theorem EZ : aM Tryz.prog 60 = true := by kernel_rfl
theorem ac4 : mU Tryz.prog 102 = some (false, 1) := by kernel_rfl
theorem afj : mU Tryz.prog 23 = some (false, 1) := by kernel_rfl
attribute [go_sem] Jc F8 IY EZ ac4 afj
theorem ah8 (k : Nat) (d : Nat -> Int) (hk : k = 0) : au Tryz.prog 123 [.one (.lst 1 k (bG d))] (.t (.one (.g (.bool (true))))) := by
  refine ah Tryz.func123 rfl (by rw [Tryz.ntmps123]; simp) ?_
  simp only [Tryz.ntmps123, zM, PT.tv, ak, Nat.zero_add, Nat.reduceAdd]
  repeat' (first
 | ((with_reducible show AW _ _ _ _); first
 | (with_reducible first | refine aS (fun K hK => ?_) | refine aT ?_)
 | (first
 | (with_reducible first | refine aP 0 [0] ?_ | refine aP 1 [0] ?_)))
 | ((first | (with_reducible refine And.intro ?_ ?_) | (with_reducible refine Need.mk ?_)); focus (first | (intro _; (with_reducible assumption)) | (simp; omega) | (simp +contextual; done)))
 | (with_reducible refine aA ?_)
 | ((with_reducible show bK _ _ _ _ _ _ _ _ _ _); first
 | (refine aQ (k := 85) Et (fun hg => TT k d (by omega)) ?_ ?_))
 | ((fail_if_success (with_reducible show AW _ _ _ _)); simp (maxSteps := 2000000) only [go_sem, reduceIte, reduceCtorEq, xA, xL, xD, xE, xM, xS, xB, Tryz.f123, bG])
 | ((fail_if_success (with_reducible show AW _ _ _ _)); simp (disch := omega) only [aJ, dG, dH])
 | ((with_reducible refine hK _ ?_); clear hK K))
  all_goals (subst hk; simp [BQ]; done)
theorem agn : au Tryz.prog 123 [.one (.g (.slice none 0 0))] (.t (.one (.g (.bool (true))))) := (ah8 0 (fun _ => 0) rfl).eqv ⟨by unfold PT.eqv IV.eqv; trivial, trivial⟩ (by rfl)
theorem QD (o : bT) (ho : o.f.Ok) : au Tryz.prog 103 [.agg [.g (.int .i64 (o.kd)), .g (.int .i64 (o.id)), .g (.int .i64 (o.f.id)), .g (.int .i64 (o.f.kd)), .g (.int .i64 (o.f.x)), .g (.int .i64 (o.f.y)), .g (.int .i64 (o.f.r)), .lst 2 o.f.n (bX o.f.P), .g (.int .i64 (o.f.d)), .g (.int .i64 (o.f.s)), .lst 6 o.f.m (bX o.f.S), .g (.int .i64 (o.x)), .g (.int .i64 (o.y)), .g (.int .i64 (o.r)), .g (.int .i64 (o.d)), .g (.int .i64 (o.s))]] (.t (.one (.g (.bool (nE o))))) := by
  refine ah Tryz.func103 rfl (by rw [Tryz.ntmps103]; simp) ?_
  simp only [Tryz.ntmps103, zM, PT.tv, ak, Nat.zero_add, Nat.reduceAdd]
  repeat' (first
 | ((with_reducible show AW _ _ _ _); first
 | (with_reducible first | refine aS (fun K hK => ?_) | refine aT ?_)
 | (first
 | (with_reducible first | refine aP 0 [0] ?_ | refine aP 1 [1] ?_)))
 | (with_reducible refine aA ?_)
 | ((fail_if_success (with_reducible show AW _ _ _ _)); simp (maxSteps := 2000000) only [go_sem, reduceIte, reduceCtorEq, xA, xL, xD, xE, xM, xS, xB, Tryz.f103])
 | ((with_reducible refine hK _ ?_); clear hK K))
  all_goals ((unfold nE; (try refine Bool.eq_iff_iff.2 ?_); (simp only [Bool.and_eq_true, Bool.or_eq_true, Bool.not_eq_true', decide_eq_true_eq, decide_eq_false_iff_not, bne_iff_ne, beq_iff_eq, ne_eq, ge_iff_le, gt_iff_lt, cond_eq_ite, iff_self, eq_self]; done)))
theorem abT (S : Nat -> aK) (m : Nat) (hm : m <= 9223372036854775807) (hq : ∀ i, i < m -> (S i).q <= 9223372036854775807) (hv : vsB S m = false) : au Tryz.prog 95 [.one (.lst 2 m (fA S)), .one (.g (.slice none 0 0))] (.tup [.one (.g (.slice none 0 0)), .one (.g (.int .i64 (1)))]) := by
  refine ah Tryz.func95 rfl (by rw [Tryz.ntmps95]; simp) ?_
  simp only [Tryz.ntmps95, zM, PT.tv, ak, Nat.zero_add, Nat.reduceAdd]
  repeat' (first
 | ((with_reducible show bK _ _ false _ _ _ _ _ _ _); (with_reducible refine eO (fun h => by cases h) (fun _ => ?_)))
 | ((with_reducible show iT _ _ false _ _ _ _); (with_reducible refine iy (fun h => by cases h) (fun _ => ?_)))
 | ((with_reducible show AW _ _ _ _); first
 | (with_reducible first | refine aS (fun K hK => ?_) | refine aT ?_ | refine aC ?_)
 | (first
 | (with_reducible first | refine aP 0 [0,1] ?_ | refine aP 1 [0,1] ?_ | refine aP 2 [] ?_)))
 | (((with_reducible refine Need.mk ?_)); focus (exact True.intro))
 | (with_reducible refine aA ?_)
 | ((with_reducible show aY _ _ _ _ _ _); first
 | ((with_reducible refine aH ?_ ?_) <;> (intro hc; (try simp only [zB, zC, reduceCtorEq] at hc); (try (exfalso; contradiction)))))
 | ((with_reducible show aN _ _ _ _ _ _ _ _ _ _); first
 | (refine aj (k := 60) EZ (Sz S m hm hq) ?_ ?_))
 | ((fail_if_success (with_reducible show AW _ _ _ _)); simp (maxSteps := 2000000) only [go_sem, reduceIte, reduceCtorEq, xA, xL, xD, xE, xM, xS, xB, Tryz.f95, hv])
 | ((with_reducible refine hK _ ?_); clear hK K))
theorem acV (S : Nat -> aK) (m : Nat) (hm : m <= 9223372036854775807) (hq : ∀ i, i < m -> (S i).q <= 9223372036854775807) (hv : vsB S m = true) : au Tryz.prog 95 [.one (.lst 2 m (fA S)), .one (.g (.slice none 0 0))] (.tup [.one (.lst 1 (P5 S m).length (bG (zL (P5 S m)))), .one (.g (.int .i64 (0)))]) := by
  have mk0 : True := trivial
  have hm200 := (of_decide_eq_true hv).1
  refine ah Tryz.func95 rfl (by rw [Tryz.ntmps95]; simp) ?_
  simp only [Tryz.ntmps95, zM, PT.tv, ak, Nat.zero_add, Nat.reduceAdd]
  repeat' (first
 | ((with_reducible show iT _ _ false _ _ _ _); (with_reducible refine iy (fun h => by cases h) (fun _ => ?_)))
 | ((with_reducible show iT _ _ true (Oper.mk _ (Op.call _) _ _ _ _) _ _ _); (with_reducible refine iy (fun _ => ?_) (fun h => by cases h)))
 | ((with_reducible show bK _ _ _ _ _ _ _ _ _ _); ((refine eO ?_ ?_) <;> (intro hc; (try rw [hc]); (try simp only [zB, zC, reduceCtorEq] at hc); (try (exfalso; contradiction)))))
 | ((with_reducible show AW _ _ _ _); first
 | (with_reducible first | refine aS (fun K hK => ?_) | refine aI ?_ | refine aX ?_ | refine aT ?_ | refine aC ?_ | refine aB ?_)
 | ((refine fJ (k := 148) rfl Tryz.func148 rfl Vm (by rw [Tryz.ntmps148]; simp) ?_ ?_ (fun l hlne A B hA hB => ?_)); (focus (simp (maxSteps := 2000000) only [go_sem, reduceIte, reduceCtorEq, xA, xL, xD, xE, xM, xS, xB, Tryz.f95, Tryz.f148, Tryz.f125, Tryz.f124, Tryz.f120, Tryz.f145, Tryz.f62, bJ, bI, bG, hv, gU, zU, aZ, bH, aW, maxLen]; try exact True.intro)); (focus (simp (maxSteps := 2000000) only [go_sem, reduceIte, reduceCtorEq, xA, xL, xD, xE, xM, xS, xB, Tryz.f95, Tryz.f148, Tryz.f125, Tryz.f124, Tryz.f120, Tryz.f145, Tryz.f62, bJ, bI, bG, hv, gU, zU, aZ, bH, aW, maxLen]; try exact True.intro)); simp only [Tryz.ntmps148, List.map_cons, List.map_nil, LV.tv, ak, yV, Nat.zero_add, Nat.reduceAdd]; clear hlne)
 | (with_reducible refine Bw (by assumption) ?_)
 | (first
 | (with_reducible first | refine aP 0 [0,1,2,7] ?_ | refine aP (ops := #[⟨some 6, _, _, _, _, _⟩, _, _, _, _, _, _, _]) 1 [0,1] ?_ | refine aP (ops := #[⟨some 9, _, _, _, _, _⟩]) 1 [0,2,6,7,8] ?_ | refine aP (ops := #[⟨some 6, _, _, _, _, _⟩, _]) 1 [0] ?_ | refine aP (ops := #[⟨some 5, _, _, _, _, _⟩, _]) 1 [2,3] ?_ | refine aP (ops := #[⟨some 3, _, _, _, _, _⟩, _, _]) 1 [0] ?_ | refine aP (ops := #[⟨some 6, _, _, _, _, _⟩]) 1 [1,2,7] ?_ | refine aP (ops := #[⟨some 7, _, _, _, _, _⟩, _, _]) 1 [0,1] ?_ | refine aP (ops := #[⟨some 10, _, _, _, _, _⟩, _, _, _]) 2 [0,2,6,7,8] ?_ | refine aP (ops := #[⟨some 7, _, _, _, _, _⟩, _, _]) 2 [0,3] ?_ | refine aP (ops := #[⟨some 5, _, _, _, _, _⟩]) 2 [2,7] ?_ | refine aP (ops := #[⟨some 10, _, _, _, _, _⟩]) 2 [0,7,8,9] ?_ | refine aP (ops := #[⟨some 14, _, _, _, _, _⟩, _, _, _, _, _, _]) 3 [0,1] ?_ | refine aP (ops := #[⟨some 12, _, _, _, _, _⟩, _, _, _, _, _, _, _, _, _, _, _, _, _, _, _, _, _]) 3 [0,2,5,6,7,8] ?_ | refine aP (ops := #[⟨some 10, _, _, _, _, _⟩]) 3 [3,7,8,9] ?_ | refine aP (ops := #[⟨some 8, _, _, _, _, _⟩, _, _, _, _]) 3 [2,5,7] ?_ | refine aP (ops := #[⟨some 11, _, _, _, _, _⟩, _, _]) 3 [0,7,8,9] ?_ | refine aP (ops := #[⟨some 30, _, _, _, _, _⟩, _]) 4 [0,2,6,7,8] ?_ | refine aP (ops := #[⟨some 12, _, _, _, _, _⟩, _]) 4 [2] ?_ | refine aP (ops := #[⟨some 13, _, _, _, _, _⟩, _, _, _]) 4 [0,6,7,8,9] ?_ | refine aP (ops := #[⟨some 4, _, _, _, _, _⟩]) 5 [] ?_ | refine aP (ops := #[⟨some 16, _, _, _, _, _⟩, _]) 7 [3] ?_ | refine aP (ops := #[⟨some 4, _, _, _, _, _⟩]) 7 [] ?_))
 | ((with_reducible show AW _ (Code.loop _) _ _); first
 | ((with_reducible refine aL (c := (Code.seq (Code.region 3 _ _) _)) (ι := Nat) [3,7,8] (fun z => [(9, iA .i64 (z : Int))]) (fun z => [(0, [.mi none 0 (zS [])])]) (fun z => z = 0) (fun z => 0) 0 ?lg3 ?l13 ?l23 ?li3 ?lr3); (case' lg3 => rintro z _); (case' li3 => try (exact rfl)); (case' lr3 => rintro z hz KR hR3; simp only [bf, bN, hset, lk, if_true, if_false, xE, reduceIte, zN, bJ, bI, hv, gU, zU, aZ, bH, aW, maxLen]))
 | ((with_reducible refine aL (c := (Code.seq (Code.region 1 _ _) _)) (ι := Nat) [0,2,6,7] (fun u => [(8, iA .i64 (u : Int))]) (fun u => [(3, [.slc 4 0 (P5 S u).length 1]), (4, dL (P5 S u))]) (fun u => u <= m) (fun u => m - u) 0 ?lg1 ?l11 ?l21 ?li1 ?lr1); (case' lg1 => rintro u _); (case' li1 => try (omega)); (case' lr1 => rintro u hu KR hR1; simp only [bf, bN, hset, lk, if_true, if_false, xE, reduceIte, zN, bJ, bI, hv, gU, zU, aZ, bH, aW, maxLen]))
 | ((with_reducible refine aL (c := (Code.seq (Code.region 2 _ _) _)) (ι := Nat) [0,7,8] (fun v => [(9, iA .i64 (v : Int))]) (fun v => []) (fun v => v = 0) (fun v => 0) 0 ?lg2 ?l12 ?l22 ?li2 ?lr2); (case' lg2 => rintro v _); (case' li2 => try (exact rfl)); (case' lr2 => rintro v hv0 KR hR2; simp only [bf, bN, hset, lk, if_true, if_false, xE, reduceIte, zN, bJ, bI, hv, gU, zU, aZ, bH, aW, maxLen]))))
 | ((first | (with_reducible refine And.intro ?_ ?_) | (with_reducible refine Need.mk ?_)); focus (first | exact True.intro | omega))
 | (with_reducible refine aA ?_)
 | ((with_reducible show aY _ _ _ _ _ _); first
 | ((with_reducible refine aH ?_ ?_) <;> (intro hc; (try simp only [zB, zC, reduceCtorEq] at hc); ((try (clear mk0; have hle := adf S u; have hmu : u < m := (by omega)))); (try (exfalso; contradiction)))))
 | ((with_reducible show aN _ _ _ _ _ _ _ _ _ _); first
 | (refine aj (k := 60) EZ (Sz S m hm hq) ?_ ?_)
 | (refine aj (k := 123) Jc (agn) ?_ ?_)
 | ((refine bY (k := 125) Tryz.func125 rfl IY (by rw [Tryz.ntmps125]; simp) ?_ ?_ (fun K hK => ?_)); (focus (exact True.intro)); (focus ((simp [iM]; done))); simp only [Tryz.ntmps125, List.map_cons, List.map_nil, List.nil_append, List.cons_append, List.append_nil, LV.tv, ak, Nat.zero_add, Nat.reduceAdd])
 | ((refine bY (k := 124) Tryz.func124 rfl F8 (by rw [Tryz.ntmps124]; simp) ?_ ?_ (fun K hK => ?_)); (focus (exact True.intro)); (focus ((simp [iM]; done))); simp only [Tryz.ntmps124, List.map_cons, List.map_nil, List.nil_append, List.cons_append, List.append_nil, LV.tv, ak, Nat.zero_add, Nat.reduceAdd])
 | ((refine bY (k := 120) Tryz.func120 rfl Bj (by rw [Tryz.ntmps120]; simp) ?_ ?_ (fun K hK => ?_)); (focus (exact True.intro)); (focus ((simp [iM]; done))); simp only [Tryz.ntmps120, List.map_cons, List.map_nil, List.nil_append, List.cons_append, List.append_nil, LV.tv, ak, Nat.zero_add, Nat.reduceAdd])
 | ((refine bY (k := 145) Tryz.func145 rfl zo (by rw [Tryz.ntmps145]; simp) ?_ ?_ (fun K hK => ?_)); (focus (exact True.intro)); (focus ((simp [iM]; done))); simp only [Tryz.ntmps145, List.map_cons, List.map_nil, List.nil_append, List.cons_append, List.append_nil, LV.tv, ak, Nat.zero_add, Nat.reduceAdd])
 | ((refine bY (k := 62) Tryz.func62 rfl Ed (by rw [Tryz.ntmps62]; simp) ?_ ?_ (fun K hK => ?_)); (focus (exact True.intro)); (focus ((simp [iM]; done))); simp only [Tryz.ntmps62, List.map_cons, List.map_nil, List.nil_append, List.cons_append, List.append_nil, LV.tv, ak, Nat.zero_add, Nat.reduceAdd]))
 | ((with_reducible refine hR1 _ (u + 1) ?_); (try clear hR1 KR))
 | ((with_reducible refine Told.mk ?_); simp only [go_sem, reduceIte, reduceCtorEq, xA, xL, xD, xE, xM, xS, xB, bJ, bI, bG, hv, gU, zU, aZ, bH, aW, maxLen] <;> (first | (((try simp (disch := omega) only [aJ, Int.natCast_add, Int.cast_ofNat_Int, and_true, true_and, and_self]); (repeat' (first | omega | rfl | (with_reducible refine And.intro ?_ ?_))); done)) | (((try simp (disch := omega) only [aJ, Int.natCast_add, Int.cast_ofNat_Int, and_true, true_and, and_self]); (repeat' (first | omega | (with_reducible refine And.intro ?_ ?_) | ((exact bO rfl (bU _))) | ((rw [aas (by omega)]; exact bO rfl (bU _))) | ((rw [aah (by omega)]; exact bO rfl (bU _))) | ((rw [aas (by omega)]; simp only [List.length_append, List.length_cons, List.length_nil, Nat.zero_add]; done)) | ((rw [aah (by omega)]; done)))); done))))
 | ((fail_if_success (with_reducible show AW _ _ _ _)); simp (maxSteps := 2000000) only [go_sem, reduceIte, reduceCtorEq, xA, xL, xD, xE, xM, xS, xB, Tryz.f95, Tryz.f148, Tryz.f125, Tryz.f124, Tryz.f120, Tryz.f145, Tryz.f62, bJ, bI, bG, hv, gU, zU, aZ, bH, aW, maxLen])
 | ((with_reducible show aN _ _ _ _ _ _ (.yld _) _ _ _); (refine nX (by simp only [Fj, if_true]; exact rfl) ?_ (by simp) ?_ ?_ (fun K hK => ?_)); (focus (exact True.intro)); (focus (simp [oI])); (focus ((simp [iM]; done))); simp only [jw, gf, if_true, Nat.reduceAdd])
 | ((with_reducible refine hK _ ?_); clear hK K)
 | (with_reducible apply_assumption -exfalso only [*]))
  all_goals ((have e7 : u = m := (by omega); subst e7; exact ⟨fun c hc9 => (by have := bU _ c hc9; cases c <;> trivial), rfl, fun i o hi ho => p9 _ i o hi ho⟩))
end Go.Proofs.YtmnejmpjmniiiaaGreatDoor
set_option maxRecDepth 100000
set_option maxHeartbeats 4000000
namespace Go.Proofs.YtmnejmpjmniiiaaGreatDoor
open Go.RowKit Go.Sea
open Nat renaming reduceAdd -> xA, reduceLT -> xL, reduceLeDiff -> xD, reduceEqDiff -> xE, reduceMul -> xM, reduceSub -> xS, reduceBEq -> xB
theorem agN : BP Tryz.prog 24 = none := by kernel_rfl
theorem Q0 : aM Tryz.prog 102 = true := by kernel_rfl
theorem AZ : aM Tryz.prog 103 = true := by kernel_rfl
theorem Ea : aM Tryz.prog 95 = true := by kernel_rfl
theorem W9 : aM Tryz.prog 97 = true := by kernel_rfl
theorem aib : uY Tryz.prog 24 = some true := by kernel_rfl
theorem af4 : oU Tryz.prog 24 = some (1, 24, 54) := by kernel_rfl
attribute [go_sem] agN AZ Ea aib af4
theorem afM {x y : bT} (h : x.id = y.id /\ ((x.kd = y.kd \/ nE x = false) \/ nE y = false)) : nR x y = true := decide_eq_true ⟨h.1, by rcases h.2 with (g | g) | g <;> simp [g]⟩
theorem ahW {x y : bT} (h : x.id ≠ y.id \/ (x.kd ≠ y.kd /\ nE x = true) /\ nE y = true) : nR x y = false := decide_eq_false (fun ⟨h1, h2⟩ => h.elim (fun g => g h1) (fun g => h2.elim (fun e => g.1.1 e) (fun e => e.elim (fun e => by rw [g.1.2] at e; cases e) (fun e => by rw [g.2] at e; cases e))))
def X4 (k : Nat) (o : Nat -> bT) (l : Nat) (p : Nat -> bT) : Int := if fO k o = true /\ fO l p = true then 0 else 1
def Xh (k : Nat) (o : Nat -> bT) (l : Nat) (p : Nat -> bT) : Int := if fO k o = true /\ fO l p = true then mR k o l p else 0
def WH (k : Nat) (o : Nat -> bT) (l : Nat) (p : Nat -> bT) : Int := if fO k o = true /\ fO l p = true then vF k o l p else 0
def OI (k : Nat) (o : Nat -> bT) : Bool := decide (∃ j, j < k /\ oQ (o j) = false)
theorem agr {k : Nat} {o : Nat -> bT} {j : Nat} (hj : (j : Int) < k) (h : oQ (o j) = false) : true = OI k o := (decide_eq_true ⟨j, by omega, h⟩).symm
theorem af2 {k : Nat} {o : Nat -> bT} {j : Nat} (hj : (k : Int) <= j) (h : ∀ i, i < j -> oQ (o i) = true) : false = OI k o := (decide_eq_false fun ⟨i, h1, h2⟩ => by rw [h i (by omega)] at h2; cases h2).symm
theorem aaF {k : Nat} {o : Nat -> bT} (h : (k : Int) > 100 \/ OI k o = true) : fO k o = false := decide_eq_false fun g => by
  rcases h with h | h
  · omega
  · obtain ⟨j, h1, h2⟩ := of_decide_eq_true h; rw [g.2 j h1] at h2; cases h2
theorem aaP {k : Nat} {o : Nat -> bT} (h : (k : Int) <= 100 /\ OI k o = false) : fO k o = true := decide_eq_true ⟨by omega, fun j hj => by
  cases e : oQ (o j) with
  | true => rfl
  | false => exact absurd ⟨j, hj, e⟩ (of_decide_eq_false h.2)⟩
theorem Vj (O : Nat -> wB) (i : Nat) : O7 O (i + 1) = O7 O i + (O i).k := rfl
theorem KV {O : Nat -> wB} : ∀ {i : Nat}, (∀ j, j < i -> fO (O j).k (O j).o = true) -> O7 O i <= 100 * i
  | 0, _ => Nat.le_refl _
  | i + 1, h => by
    have := KV (i := i) fun j hj => h j (by omega)
    have := (of_decide_eq_true (h i (by omega))).1
    rw [Vj]; omega
theorem aek {x : bF} (h : Fb x) : 1 = cB x := by unfold cB; rw [if_pos h]
theorem aiZ {x : bF} (h : vsB x.S x.m = false) : 1 = cB x := aek (Or.inl h)
theorem ajC {x : bF} (h : ((0 : Int) ≠ 0 \/ gM x.n x.f = false) \/ (x.mo : Int) ≠ x.m) : 1 = cB x := aek (h.elim (fun h => h.elim (fun h => absurd rfl h) (fun h => Or.inr (Or.inl h))) (fun h => Or.inr (Or.inr (Or.inl (by omega)))))
theorem aiY {x : bF} {i : Nat} (hi : (i : Int) < x.mo) (h : ((x.O i).k : Int) > 100 \/ OI (x.O i).k (x.O i).o = true) : 1 = cB x := aek (Or.inr (Or.inr (Or.inr ⟨i, by omega, aaF h⟩)))
theorem ail {x : bF} (hv : vsB x.S x.m = true) (hf : gM x.n x.f = true /\ (x.mo : Int) = x.m) {i : Nat} (hi : (x.mo : Int) <= i) (hi2 : i <= x.mo) (h : ∀ j, j < i -> fO (x.O j).k (x.O j).o = true) : ¬ Fb x /\ i = x.mo := by
  refine ⟨?_, by omega⟩
  intro g
  rcases g with g | g | g | ⟨j, h1, h2⟩
  · rw [hv] at g; cases g
  · rw [hf.1] at g; cases g
  · omega
  · rw [h j (by omega)] at h2; cases h2
theorem ahb {x : bF} (h0 : ¬ Fb x) (h : (x.m : Int) > 10 \/ (x.n : Int) + (O7 x.O x.mo : Int) > 300) : 2 = cB x := by unfold cB; rw [if_neg h0, if_pos (by omega)]
theorem aiw {x : bF} (h0 : ¬ Fb x) (h : (x.m : Int) <= 10 /\ (x.n : Int) + (O7 x.O x.mo : Int) <= 300) : 0 = cB x := by unfold cB; rw [if_neg h0, if_neg (by omega)]
theorem aaG (k : Nat) (o : Nat -> bT) (l : Nat) (p : Nat -> bT) (hk : k <= 9223372036854775807) (ho : ∀ i, i < k -> (o i).f.Ok) (hl : l <= 9223372036854775807) (hp : ∀ i, i < l -> (p i).f.Ok) (hv : fO k o = false) : au Tryz.prog 67 [.one (.lst 16 k (fu o)), .one (.lst 16 l (fu p))] (.tup [.one (.g (.int .i64 (Xh k o l p))), .one (.g (.int .i64 (WH k o l p))), .one (.g (.int .i64 (X4 k o l p)))]) := by
  refine ah Tryz.func67 rfl (by rw [Tryz.ntmps67]; simp) ?_
  simp only [Tryz.ntmps67, zM, PT.tv, ak, Nat.zero_add, Nat.reduceAdd]
  repeat' (first
 | ((with_reducible show bK _ _ false _ _ _ _ _ _ _); (with_reducible refine eO (fun h => by cases h) (fun _ => ?_)))
 | ((with_reducible show iT _ _ false _ _ _ _); (with_reducible refine iy (fun h => by cases h) (fun _ => ?_)))
 | ((with_reducible show AW _ _ _ _); first
 | (with_reducible first | refine aS (fun K hK => ?_) | refine aT ?_ | refine aC ?_)
 | (first
 | (with_reducible first | refine aP 0 [0,1] ?_ | refine aP 1 [0,1] ?_ | refine aP 2 [] ?_)))
 | ((first | (with_reducible refine And.intro ?_ ?_) | (with_reducible refine Need.mk ?_)); focus (exact True.intro))
 | (with_reducible refine aA ?_)
 | ((with_reducible show aY _ _ _ _ _ _); first
 | ((with_reducible refine aH ?_ ?_) <;> (intro hc; (try simp only [zB, zC, reduceCtorEq] at hc); (try (exfalso; contradiction)))))
 | ((with_reducible show aN _ _ _ _ _ _ _ _ _ _); (refine aj (k := 90) kT (jV k o hk ho) ?_ ?_))
 | ((fail_if_success (with_reducible show AW _ _ _ _)); simp (maxSteps := 2000000) only [go_sem, reduceIte, reduceCtorEq, xA, xL, xD, xE, xM, xS, xB, Tryz.f67, hv])
 | ((with_reducible refine hK _ ?_); clear hK K))
  all_goals ((unfold Xh WH X4; simp [hv]; done))
theorem adH (k : Nat) (o : Nat -> bT) (l : Nat) (p : Nat -> bT) (hk : k <= 9223372036854775807) (ho : ∀ i, i < k -> (o i).f.Ok) (hl : l <= 9223372036854775807) (hp : ∀ i, i < l -> (p i).f.Ok) (hv : fO k o = true) (hw : fO l p = false) : au Tryz.prog 67 [.one (.lst 16 k (fu o)), .one (.lst 16 l (fu p))] (.tup [.one (.g (.int .i64 (Xh k o l p))), .one (.g (.int .i64 (WH k o l p))), .one (.g (.int .i64 (X4 k o l p)))]) := by
  refine ah Tryz.func67 rfl (by rw [Tryz.ntmps67]; simp) ?_
  simp only [Tryz.ntmps67, zM, PT.tv, ak, Nat.zero_add, Nat.reduceAdd]
  repeat' (first
 | ((with_reducible show AW _ _ _ _); first
 | (with_reducible first | refine aS (fun K hK => ?_) | refine aT ?_ | refine aC ?_)
 | (first
 | (with_reducible first | refine aP 0 [0,1] ?_ | refine aP 1 [0,1] ?_ | refine aP 2 [] ?_)))
 | ((first | (with_reducible refine And.intro ?_ ?_) | (with_reducible refine Need.mk ?_)); focus (first | exact True.intro | (intro _; exact True.intro)))
 | (with_reducible refine aA ?_)
 | ((with_reducible show aY _ _ _ _ _ _); first
 | ((with_reducible refine aH ?_ ?_) <;> (intro hc; (try simp only [zB, zC, reduceCtorEq] at hc); (try (exfalso; contradiction)))))
 | ((with_reducible show aN _ _ _ _ _ _ _ _ _ _); (refine aj (k := 90) kT (jV k o hk ho) ?_ ?_))
 | ((with_reducible show bK _ _ _ _ _ _ _ _ _ _); (refine aQ (k := 90) kT (fun hg => jV l p hl hp) ?_ ?_))
 | ((fail_if_success (with_reducible show AW _ _ _ _)); simp (maxSteps := 2000000) only [go_sem, reduceIte, reduceCtorEq, xA, xL, xD, xE, xM, xS, xB, Tryz.f67, hv, hw])
 | ((with_reducible refine hK _ ?_); clear hK K))
  all_goals ((unfold Xh WH X4; simp [hv, hw]; done))
theorem abp (k : Nat) (o : Nat -> bT) (l : Nat) (p : Nat -> bT) (hk : k <= 9223372036854775807) (ho : ∀ i, i < k -> (o i).f.Ok) (hl : l <= 9223372036854775807) (hp : ∀ i, i < l -> (p i).f.Ok) (hv : fO k o = true) (hw : fO l p = true) : au Tryz.prog 67 [.one (.lst 16 k (fu o)), .one (.lst 16 l (fu p))] (.tup [.one (.g (.int .i64 (Xh k o l p))), .one (.g (.int .i64 (WH k o l p))), .one (.g (.int .i64 (X4 k o l p)))]) := by
  have hk1 := (of_decide_eq_true hv).1
  have hl1 := (of_decide_eq_true hw).1
  refine ah Tryz.func67 rfl (by rw [Tryz.ntmps67]; simp) ?_
  simp only [Tryz.ntmps67, zM, PT.tv, ak, Nat.zero_add, Nat.reduceAdd]
  repeat' (first
 | ((with_reducible show AW _ _ _ _); first
 | (with_reducible first | refine aS (fun K hK => ?_) | refine aI ?_ | refine aX ?_ | refine aT ?_ | refine aC ?_ | refine aB ?_)
 | (first
 | (with_reducible first | refine aP (ops := #[⟨some 4, _, _, _, _, _⟩, _, _]) 0 [0,1] ?_ | refine aP (ops := #[⟨some 4, _, _, _, _, _⟩]) 0 [0,1] ?_ | refine aP (ops := #[⟨some 2, _, _, _, _, _⟩, _]) 0 [0,1] ?_ | refine aP (ops := #[⟨some 10, _, _, _, _, _⟩, _, _, _, _, _, _, _]) 1 [0,1] ?_ | refine aP (ops := #[⟨some 6, _, _, _, _, _⟩, _, _]) 1 [0,1] ?_ | refine aP (ops := #[⟨some 4, _, _, _, _, _⟩, _, _, _, _, _, _, _, _, _, _, _, _, _, _, _, _, _, _, _, _, _, _]) 1 [1,2] ?_ | refine aP (ops := #[⟨some 9, _, _, _, _, _⟩]) 2 [0,1,7,8] ?_ | refine aP (ops := #[⟨some 18, _, _, _, _, _⟩, _, _]) 3 [0,1] ?_ | refine aP (ops := #[⟨some 10, _, _, _, _, _⟩, _]) 3 [0,1,7,8] ?_ | refine aP (ops := #[⟨some 21, _, _, _, _, _⟩]) 4 [1,18,19,20] ?_ | refine aP (ops := #[⟨some 11, _, _, _, _, _⟩, _, _, _, _, _]) 4 [0,1,5,7,8] ?_ | refine aP (ops := #[⟨some 22, _, _, _, _, _⟩, _, _, _, _, _]) 5 [1,18,19,20] ?_ | refine aP (ops := #[⟨some 17, _, _, _, _, _⟩, _]) 5 [5] ?_ | refine aP (ops := #[⟨some 25, _, _, _, _, _⟩, _, _, _]) 6 [1,7,8,18,19,20] ?_ | refine aP (ops := #[⟨some 18, _, _, _, _, _⟩, _]) 6 [0,1,7,8] ?_ | refine aP (ops := #[⟨some 28, _, _, _, _, _⟩, _]) 7 [1,7,9,18,19,20] ?_ | refine aP (ops := #[⟨some 4, _, _, _, _, _⟩]) 7 [] ?_ | refine aP 8 [7,9] ?_ | refine aP 9 [1,18,19,20] ?_ | refine aP 10 [] ?_))
 | ((with_reducible show AW _ (Code.loop _) _ _); first
 | ((with_reducible refine aL (c := (Code.seq (Code.region 4 _ _) _)) (ι := Nat) [1,18,19] (fun i => [(20, iA .i64 (i : Int))]) (fun i => []) (fun i => i <= k /\ (∀ i', i' < i -> ∀ j, j < l -> nR (o i') (p j) = false)) (fun i => k - i) 0 ?lg4 ?l14 ?l24 ?li4 ?lr4); (case' lg4 => rintro i _); (case' li4 => try (exact ⟨Nat.zero_le _, fun i hi => absurd hi (Nat.not_lt_zero _)⟩)); (case' lr4 => rintro i ⟨hi, hai⟩ KR hR4; simp only [bf, bN, hset, lk, if_true, if_false, xE, reduceIte, zN, hv, hw]))
 | ((with_reducible refine aL (c := (Code.seq (Code.region 2 _ _) _)) (ι := Nat) [0,1,7] (fun j => [(8, iA .i64 (j : Int))]) (fun j => []) (fun j => j <= l /\ (∀ j', j' < j -> nR (o i) (p j') = false)) (fun j => l - j) 0 ?lg2 ?l12 ?l22 ?li2 ?lr2); (case' lg2 => rintro j _); (case' li2 => try (exact ⟨Nat.zero_le _, fun i hi => absurd hi (Nat.not_lt_zero _)⟩)); (case' lr2 => rintro j ⟨hj, haj⟩ KR hR2; simp only [bf, bN, hset, lk, if_true, if_false, xE, reduceIte, zN, hv, hw]))))
 | ((first | (with_reducible refine And.intro ?_ ?_) | (with_reducible refine Need.mk ?_)); focus (first | exact True.intro | omega | (intro _; first | exact True.intro | (with_reducible assumption)) | (simp; omega) | (simp +contextual; done)))
 | (with_reducible refine aA ?_)
 | ((with_reducible show aY _ _ _ _ _ _); first
 | ((with_reducible refine aH ?_ ?_) <;> (intro hc; (try simp only [zB, zC, reduceCtorEq] at hc); (try (exfalso; contradiction)))))
 | ((with_reducible show aN _ _ _ _ _ _ _ _ _ _); first
 | (refine aj (k := 90) kT (jV k o hk ho) ?_ ?_)
 | ((refine bY (k := 101) Tryz.func101 rfl uS (by rw [Tryz.ntmps101]; simp) ?_ ?_ (fun K hK => ?_)); (focus (exact True.intro)); (focus ((simp [iM]; done))); simp only [Tryz.ntmps101, List.map_cons, List.map_nil, List.nil_append, List.cons_append, List.append_nil, LV.tv, ak, Nat.zero_add, Nat.reduceAdd])
 | ((refine gK (k := 102) Tryz.func102 rfl Q0 (by rw [Tryz.ntmps102]; simp) ?_ ?_ (fun K hK => ?_)); (focus (exact True.intro)); (focus ((simp [iM]; done))); simp only [Tryz.ntmps102, List.map_cons, List.map_nil, List.nil_append, List.cons_append, List.append_nil, LV.tv, ak, Nat.zero_add, Nat.reduceAdd]))
 | ((with_reducible show bK _ _ _ _ _ _ _ _ _ _); first
 | (refine aQ (k := 90) kT (fun hg => jV l p hl hp) ?_ ?_)
 | (refine aQ (k := 103) AZ (fun hg => QD (o i) (ho i (by omega))) ?_ ?_)
 | (refine aQ (k := 103) AZ (fun hg => QD (p j) (hp j (by omega))) ?_ ?_))
 | ((with_reducible refine hR4 _ (i + 1) ?_); (try clear hR4 KR))
 | ((with_reducible refine hR2 _ (j + 1) ?_); (try clear hR2 KR))
 | ((with_reducible refine Told.mk ?_); simp only [go_sem, reduceIte, reduceCtorEq, xA, xL, xD, xE, xM, xS, xB, hv, hw] <;> (first | (((try simp (disch := omega) only [aJ, Int.natCast_add, Int.cast_ofNat_Int, and_true, true_and, and_self]); (repeat' (first | omega | (with_reducible refine And.intro ?_ ?_) | ((exact all_succ (by assumption) (fun t ht => haj t (by omega)))))); done)) | (((try simp (disch := omega) only [aJ, Int.natCast_add, Int.cast_ofNat_Int, and_true, true_and, and_self]); (repeat' (first | omega | (with_reducible refine And.intro ?_ ?_) | ((exact all_succ (by assumption) (ahW hc))))); done))))
 | ((fail_if_success (with_reducible show AW _ _ _ _)); simp (maxSteps := 2000000) only [go_sem, reduceIte, reduceCtorEq, xA, xL, xD, xE, xM, xS, xB, Tryz.f67, Tryz.f101, Tryz.f102, hv, hw])
 | ((with_reducible refine hK _ ?_); clear hK K)
 | (with_reducible apply_assumption -exfalso only [*]))
  all_goals first
    | (have e := aaj (k := k) (l := l) (by omega) hai (by omega) (afM (by assumption)) haj; unfold Xh WH X4; rw [if_pos ⟨hv, hw⟩, if_pos ⟨hv, hw⟩, if_pos ⟨hv, hw⟩]; exact ⟨e.1, e.2, rfl⟩)
    | (have e := ZE (k := k) (l := l) (p := p) (by omega) hai; unfold Xh WH X4; rw [if_pos ⟨hv, hw⟩, if_pos ⟨hv, hw⟩, if_pos ⟨hv, hw⟩]; exact ⟨e.1, e.2, rfl⟩)
    | skip
theorem abM (k : Nat) (o : Nat -> bT) (l : Nat) (p : Nat -> bT) (hk : k <= 9223372036854775807) (ho : ∀ i, i < k -> (o i).f.Ok) (hl : l <= 9223372036854775807) (hp : ∀ i, i < l -> (p i).f.Ok) : au Tryz.prog 67 [.one (.lst 16 k (fu o)), .one (.lst 16 l (fu p))] (.tup [.one (.g (.int .i64 (Xh k o l p))), .one (.g (.int .i64 (WH k o l p))), .one (.g (.int .i64 (X4 k o l p)))]) := by
  cases hv : fO k o with
  | false => exact aaG k o l p hk ho hl hp hv
  | true => cases hw : fO l p with
    | false => exact adH k o l p hk ho hl hp hv hw
    | true => exact abp k o l p hk ho hl hp hv hw
theorem abB (o : bT) (ho : o.f.Ok) : au Tryz.prog 97 [.agg [.g (.int .i64 (o.kd)), .g (.int .i64 (o.id)), .g (.int .i64 (o.f.id)), .g (.int .i64 (o.f.kd)), .g (.int .i64 (o.f.x)), .g (.int .i64 (o.f.y)), .g (.int .i64 (o.f.r)), .lst 2 o.f.n (bX o.f.P), .g (.int .i64 (o.f.d)), .g (.int .i64 (o.f.s)), .lst 6 o.f.m (bX o.f.S), .g (.int .i64 (o.x)), .g (.int .i64 (o.y)), .g (.int .i64 (o.r)), .g (.int .i64 (o.d)), .g (.int .i64 (o.s))]] (.t (.one (.g (.bool (!oQ o))))) := by
  refine ah Tryz.func97 rfl (by rw [Tryz.ntmps97]; simp) ?_
  simp only [Tryz.ntmps97, zM, PT.tv, ak, Nat.zero_add, Nat.reduceAdd]
  repeat' (first
 | ((with_reducible show AW _ _ _ _); first
 | (with_reducible first | refine aS (fun K hK => ?_) | refine aT ?_)
 | (first
 | (with_reducible first | refine aP 0 [0] ?_ | refine aP 1 [1] ?_)))
 | (((with_reducible refine Need.mk ?_)); focus (exact True.intro))
 | (with_reducible refine aA ?_)
 | ((with_reducible show aN _ _ _ _ _ _ _ _ _ _); first
 | (refine aj (k := 98) Dn (ah6 _ ho) ?_ ?_))
 | ((fail_if_success (with_reducible show AW _ _ _ _)); simp (maxSteps := 2000000) only [go_sem, reduceIte, reduceCtorEq, xA, xL, xD, xE, xM, xS, xB, Tryz.f97])
 | ((with_reducible refine hK _ ?_); clear hK K))
theorem acC (k : Nat) (o : Nat -> bT) (hk : k <= 9223372036854775807) (ho : ∀ i, i < k -> (o i).f.Ok) : au Tryz.prog 96 [.one (.lst 16 k (fu o)), .one (.g (.func (.func 97) #[] #[]))] (.t (.one (.g (.bool (OI k o))))) := by
  refine ah Tryz.func96 rfl (by rw [Tryz.ntmps96]; simp) ?_
  simp only [Tryz.ntmps96, zM, PT.tv, ak, Nat.zero_add, Nat.reduceAdd]
  repeat' (first
 | ((with_reducible show AW _ _ _ _); first
 | (with_reducible first | refine aS (fun K hK => ?_) | refine aI ?_ | refine aX ?_ | refine aT ?_ | refine aC ?_ | refine aB ?_)
 | (first
 | (with_reducible first | refine aP 0 [0,1] ?_ | refine aP (ops := #[⟨some 5, _, _, _, _, _⟩, _, _, _, _]) 1 [0,1] ?_ | refine aP (ops := #[⟨some 6, _, _, _, _, _⟩, _, _]) 1 [0,1] ?_ | refine aP 2 [0,1,7,8] ?_ | refine aP 3 [0,1,7,8] ?_ | refine aP 4 [0,1,5,7,8] ?_ | refine aP 5 [5] ?_ | refine aP 6 [0,1,7,8] ?_ | refine aP 7 [] ?_))
 | ((with_reducible show AW _ (Code.loop _) _ _); first
 | ((with_reducible refine aL (c := (Code.seq (Code.region 2 _ _) _)) (ι := Nat) [0,1,7] (fun j => [(8, iA .i64 (j : Int))]) (fun j => []) (fun j => j <= k /\ (∀ j', j' < j -> oQ (o j') = true)) (fun j => k - j) 0 ?lg2 ?l12 ?l22 ?li2 ?lr2); (case' lg2 => rintro j _); (case' li2 => try (exact ⟨Nat.zero_le _, fun i hi => absurd hi (Nat.not_lt_zero _)⟩)); (case' lr2 => rintro j ⟨hj, haj⟩ KR hR2; simp only [bf, bN, hset, lk, if_true, if_false, xE, reduceIte, zN]))))
 | ((first | (with_reducible refine And.intro ?_ ?_) | (with_reducible refine Need.mk ?_)); focus (first | exact True.intro | omega))
 | (with_reducible refine aA ?_)
 | ((with_reducible show aY _ _ _ _ _ _); first
 | ((with_reducible refine aH ?_ ?_) <;> (intro hc; (try simp only [zB, zC, reduceCtorEq] at hc); (try (exfalso; contradiction)))))
 | ((with_reducible show aN _ _ _ _ _ _ _ _ _ _); first
 | (refine aj (k := 97) W9 (abB _ (ho _ (by omega))) ?_ ?_)
 | ((refine bY (k := 101) Tryz.func101 rfl uS (by rw [Tryz.ntmps101]; simp) ?_ ?_ (fun K hK => ?_)); (focus (exact True.intro)); (focus ((simp [iM]; done))); simp only [Tryz.ntmps101, List.map_cons, List.map_nil, List.nil_append, List.cons_append, List.append_nil, LV.tv, ak, Nat.zero_add, Nat.reduceAdd]))
 | ((with_reducible refine hR2 _ (j + 1) ?_); (try clear hR2 KR))
 | ((with_reducible refine Told.mk ?_); simp only [go_sem, reduceIte, reduceCtorEq, xA, xL, xD, xE, xM, xS, xB] <;> ((((try simp (disch := omega) only [aJ, Int.natCast_add, Int.cast_ofNat_Int, and_true, true_and, and_self]); (repeat' (first | omega | (with_reducible refine And.intro ?_ ?_) | (exact all_succ (by assumption) (by assumption)) )); done))))
 | ((fail_if_success (with_reducible show AW _ _ _ _)); simp (maxSteps := 2000000) only [go_sem, reduceIte, reduceCtorEq, xA, xL, xD, xE, xM, xS, xB, Tryz.f96, Tryz.f101])
 | ((with_reducible refine hK _ ?_); clear hK K)
 | (with_reducible apply_assumption -exfalso only [*]))
  all_goals first
    | (refine Eq.trans ?_ (agr (by omega) (by assumption)); have h0 : (j : Int) >= 0 := (by omega); simp [h0]; done)
    | (refine Eq.trans ?_ (af2 (by omega) haj); simp; done)
    | skip
theorem abl (x : bF) (hx : x.Ok) (hv : vsB x.S x.m = false) : au Tryz.prog 65 [.one (.lst 9 x.n (bq x.f)), .one (.lst 2 x.m (fA x.S)), .one (.lst 1 x.mo (iJ x.O))] (.t (.one (.g (.int .i64 (cB x))))) := by
  refine ah Tryz.func65 rfl (by rw [Tryz.ntmps65]; simp) ?_
  simp only [Tryz.ntmps65, zM, PT.tv, ak, Nat.zero_add, Nat.reduceAdd]
  repeat' (first
 | ((with_reducible show AW _ _ _ _); first
 | (with_reducible first | refine aS (fun K hK => ?_) | refine aT ?_ | refine aC ?_)
 | (first
 | (with_reducible first | refine aP 0 [0,1,2] ?_ | refine aP 1 [0,1,2] ?_ | refine aP 2 [0,1,2,8] ?_ | refine aP 3 [] ?_)))
 | ((first | (with_reducible refine And.intro ?_ ?_) | (with_reducible refine Need.mk ?_)); focus (first | exact True.intro | (intro _; (with_reducible assumption)) | (simp; done)))
 | (with_reducible refine aA ?_)
 | ((with_reducible show aY _ _ _ _ _ _); first
 | ((with_reducible refine aH ?_ ?_) <;> (intro hc; (try simp only [zB, zC, reduceCtorEq] at hc); (try (exfalso; omega)))))
 | ((with_reducible show aN _ _ _ _ _ _ _ _ _ _); first
 | (refine aj (k := 95) Ea (abT x.S x.m hx.m hx.q hv) ?_ ?_))
 | ((with_reducible show bK _ _ _ _ _ _ _ _ _ _); (refine aQ (k := 89) nY (fun hg => uN x.n x.f hx.n hx.f) ?_ ?_))
 | ((fail_if_success (with_reducible show AW _ _ _ _)); simp (maxSteps := 2000000) only [go_sem, reduceIte, reduceCtorEq, xA, xL, xD, xE, xM, xS, xB, Tryz.f65, bJ, bI, dD])
 | ((with_reducible refine hK _ ?_); clear hK K))
  all_goals (exact aiZ hv)
theorem acR (x : bF) (hx : x.Ok) (hv : vsB x.S x.m = true) : au Tryz.prog 65 [.one (.lst 9 x.n (bq x.f)), .one (.lst 2 x.m (fA x.S)), .one (.lst 1 x.mo (iJ x.O))] (.t (.one (.g (.int .i64 (cB x))))) := by
  have hxn := hx.n
  have hxm := hx.m
  have hxo := hx.mo
  have hm200 := (of_decide_eq_true hv).1
  have mk0 : True := trivial
  have mk1 : True := trivial
  refine ah Tryz.func65 rfl (by rw [Tryz.ntmps65]; simp) ?_
  simp only [Tryz.ntmps65, zM, PT.tv, ak, Nat.zero_add, Nat.reduceAdd]
  repeat' (first
 | ((with_reducible show AW _ _ _ _); first
 | (with_reducible first | refine aS (fun K hK => ?_) | refine aI ?_ | refine aX ?_ | refine aT ?_ | refine aC ?_ | refine aB ?_)
 | (first
 | (with_reducible first | refine aP 0 [0,1,2] ?_ | refine aP 1 [0,1,2] ?_ | refine aP 2 [0,1,2,8] ?_ | refine aP 3 [] ?_ | refine aP 4 [0,1,2] ?_ | refine aP 5 [1,2,9] ?_ | refine aP 6 [1,9,33,34,35] ?_ | refine aP 7 [1,9,33,34,35] ?_ | refine aP 8 [1,9,11,33,34,35] ?_ | refine aP 9 [] ?_ | refine aP 10 [1,9,11,33,34,35] ?_ | refine aP 11 [1,9,33,34,35] ?_ | refine aP 12 [1,9] ?_ | refine aP 13 [] ?_ | refine aP 14 [] ?_))
 | ((with_reducible show AW _ (Code.loop _) _ _); first
 | ((with_reducible refine aL (c := (Code.seq (Code.region 6 _ _) _)) (ι := Nat) [1,33,34] (fun i => [(9, iA .i64 ((x.n : Int) + (O7 x.O i : Int))), (35, iA .i64 (i : Int))]) (fun i => []) (fun i => i <= x.mo /\ (∀ i', i' < i -> fO (x.O i').k (x.O i').o = true)) (fun i => x.mo - i) 0 ?lg6 ?l16 ?l26 ?li6 ?lr6); (case' lg6 => rintro i _); (case' li6 => try (exact ⟨Nat.zero_le _, fun i hi => absurd hi (Nat.not_lt_zero _)⟩)); (case' lr6 => rintro i ⟨hi, hai⟩ KR hR6; simp only [bf, bN, hset, lk, if_true, if_false, xE, reduceIte, zN, bJ, bI, dD]))))
 | ((first | (with_reducible refine And.intro ?_ ?_) | (with_reducible refine Need.mk ?_)); focus (first | exact True.intro | omega | (intro _; (with_reducible assumption)) | (simp; done)))
 | (with_reducible refine aA ?_)
 | ((with_reducible show aY _ _ _ _ _ _); first
 | ((with_reducible refine aH ?_ ?_) <;> (intro hc; (try simp only [zB, zC, reduceCtorEq] at hc); ((try (clear mk0; have hmo : (x.mo : Int) = x.m := hc.2; have hfe := hc.1.2; have hfn := (of_decide_eq_true hfe).1)); (try (clear mk1; have hsm := KV hai; have hxk := hx.k i (by omega)))); (try (exfalso; contradiction)))))
 | ((with_reducible show aN _ _ _ _ _ _ _ _ _ _); first
 | (refine aj (k := 95) Ea (acV x.S x.m hx.m hx.q hv) ?_ ?_))
 | ((with_reducible show bK _ _ _ _ _ _ _ _ _ _); first
 | (refine aQ (k := 89) nY (fun hg => uN x.n x.f hx.n hx.f) ?_ ?_)
 | (refine aQ (k := 96) EA (fun hg => acC (x.O i).k (x.O i).o (hx.k i (by omega)) (hx.o i (by omega))) ?_ ?_))
 | ((with_reducible refine hR6 _ (i + 1) ?_); (try clear hR6 KR))
 | ((with_reducible refine Told.mk ?_); simp only [go_sem, reduceIte, reduceCtorEq, xA, xL, xD, xE, xM, xS, xB, bJ, bI, dD] <;> ((((try simp (disch := omega) only [aJ, Int.natCast_add, Int.cast_ofNat_Int, and_true, true_and, and_self]); (repeat' (first | omega | rfl | (with_reducible refine And.intro ?_ ?_) | ((exact all_succ (by assumption) (aaP hc))) | ((rw [Vj]; omega)))); done))))
 | ((fail_if_success (with_reducible show AW _ _ _ _)); simp (maxSteps := 2000000) only [go_sem, reduceIte, reduceCtorEq, xA, xL, xD, xE, xM, xS, xB, Tryz.f65, bJ, bI, dD])
 | ((fail_if_success (with_reducible show AW _ _ _ _)); simp (disch := omega) only [aJ, dG, dH])
 | ((with_reducible refine hK _ ?_); clear hK K)
 | (with_reducible apply_assumption -exfalso only [*]))
  all_goals first
    | exact ajC hc
    | exact aiY (by omega) hc
    | (have e := ail (x := x) hv ⟨hfe, hmo⟩ (by omega) hi hai; have e2 := e.2; subst e2; first | exact ahb e.1 hc | exact aiw e.1 hc)
    | skip
theorem zV (x : bF) (hx : x.Ok) : au Tryz.prog 65 [.one (.lst 9 x.n (bq x.f)), .one (.lst 2 x.m (fA x.S)), .one (.lst 1 x.mo (iJ x.O))] (.t (.one (.g (.int .i64 (cB x))))) := by
  cases hv : vsB x.S x.m with
  | false => exact abl x hx hv
  | true => exact acR x hx hv
end Go.Proofs.YtmnejmpjmniiiaaGreatDoor
set_option maxRecDepth 100000
set_option maxHeartbeats 4000000
namespace Go.Proofs.YtmnejmpjmniiiaaGreatDoor
open Go.ChangeShapes Go.WideShapes Go.ChangeAt Go.RowKit Go.Joins Go.Deep Go.Sea
theorem YD {w : World} {Z : Nat -> Prop} {v u : Value} (h : Rd w Z v (.g u)) : v = u := by cases h; rfl
abbrev Zw (w : World) : Nat -> Prop := fun b => b < w.heap.size
section
variable {H : Type} {enc : TypeId × Value -> H} {w : World} {base : Nat} {spare : Nat -> Bool} {held : Bool} {r : Reach} {b0 : Nat} {v : Value} {d : DataW H} {p : List MemPlace}
theorem PU {a : Addr} {j : Nat} {x : Value} (h : w.cell? (a.add j) = some x) (h0 : j = 0 \/ a.spot = none) : a.spot = none := by
  rcases h0 with rfl | h0
  · obtain ⟨ab, ao, sub⟩ := a
    cases sub with
    | none => rfl
    | some y =>
      exfalso
      simp [Addr.add, World.cell?] at h
      split at h <;> simp at h
  · exact h0
theorem lU {t e : TypeId} (ht : Tryz.prog.underlying t = some (.slice e)) {E : Nat} (hE : Tryz.prog.cellsOf e = E) (h0 : 0 < E) {α : Type} [Inhabited α] (F : α -> Nat -> IV)
    (el : ∀ (n : Nat) (cs : List Value) (y : DataW H × List MemPlace), DataW.trod enc Tryz.prog w base spare held n e cs = some y -> cs.length = E -> ∃ z : α, ∀ (o : Nat) v, cs[o]? = some v -> Rd w (Zw w) v (F z o))
    {c : Value} {n : Nat} {y : DataW H × List MemPlace} (h : DataW.trod enc Tryz.prog w base spare held n t [c] = some y) : ∃ (k : Nat) (Z : Nat -> α), k <= 9223372036854775807 /\ Rd w (Zw w) c (.lst E k fun i o => F (Z i) o) := by
  rcases open_slice ht h with ⟨e, _⟩ | ⟨a, len, cap, m, n', D, Pl, e, hb, hl, hm, hmm, _, hx⟩
  · simp at e; subst e
    exact ⟨0, fun _ => default, Nat.zero_le _, .nil _ _ _ _⟩
  · simp at e
    subst e
    rw [hE] at hx
    have hlm : len <= m := by rw [hmm]; split <;> omega
    have each : ∀ i, i < len -> ∃ q : α × (Nat -> Value), ∀ o, o < E -> w.cell? (a.add (i * E + o)) = some (q.2 o) /\ Rd w (Zw w) (q.2 o) (F q.1 o) := fun i hi => by
      obtain ⟨cs', h1, h2⟩ := hx i (by omega)
      obtain ⟨_, hlen, hcell⟩ := World.cells?_some h1
      obtain ⟨z, hz⟩ := el _ _ _ h2 hlen
      refine ⟨(z, fun o => cs'.getD o undef), fun o ho => ?_⟩
      have h3 := hcell o ho
      rw [add_add] at h3
      have h4 : cs'[o]? = some (cs'.getD o undef) := by simp [List.getD, show o < cs'.length by omega]
      rw [h4] at h3
      exact ⟨h3, hz o _ h4⟩
    obtain ⟨Q, hQ⟩ := choose_lt each
    refine ⟨len, fun i => (Q i).1, by unfold maxLen at hm; omega, ?_⟩
    rcases Nat.eq_zero_or_pos len with hz | hpos
    · subst hz; exact .nil _ _ _ _
    · have hs := PU (hQ 0 hpos 0 h0).1 (Or.inl (by omega))
      obtain ⟨ab, ao, sub⟩ := a
      simp only at hs
      subst hs
      have hlt : ab < w.heap.size := by
        have := World.block_lt_of_cell? w _ (hQ 0 hpos 0 h0).1
        rwa [Addr.add_lit] at this
      refine .lst ab ao len cap E _ (fun i o => (Q i).2 o) hlt hl hm (fun i o hi' ho => ?_) fun i o hi' ho => (hQ i hi' o ho).2
      have := (hQ i hi' o ho).1
      rw [Addr.add_lit] at this
      rw [Nat.add_assoc]; exact this
theorem cells3 : Tryz.prog.cellsOf 3 = 1 := by kernel_rfl
theorem Qp {n : Nat} {cs : List Value} {y : DataW H × List MemPlace} (h : DataW.trod enc Tryz.prog w base spare held n 3 cs = some y) (hl : cs.length = 1) : ∃ z : Int, ∀ (o : Nat) v, cs[o]? = some v -> Rd w (Zw w) v (.g (.int .i64 z)) := by
  obtain ⟨z, e, _, _⟩ := DataW.trod_int Tryz.underlying3 h
  subst e
  refine ⟨z, fun o v hv => ?_⟩
  rcases o with _ | o
  · simp at hv; subst hv; exact .g _ rfl
  · simp at hv
theorem open_ints' {c : Value} {n : Nat} {y : DataW H × List MemPlace} (h : DataW.trod enc Tryz.prog w base spare held n 27 [c] = some y) : ∃ (k : Nat) (s : Nat -> Int), k <= 9223372036854775807 /\ Rd w (Zw w) c (.lst 1 k (bG s)) :=
  lU Tryz.underlying27 cells3 (by omega) (fun z _ => .g (.int .i64 z)) (fun n cs y h hl => Qp h hl) h
theorem Ou {cs : List Value} {k : Nat} {v c : Value} (h : (cs.drop k).take 1 = [c]) (hv : cs[k]? = some v) : v = c := by
  have h1 : ((cs.drop k).take 1)[0]? = some c := by rw [h]; rfl
  rw [List.getElem?_take, if_pos (by omega), List.getElem?_drop, Nat.add_zero, hv] at h1
  exact Option.some.inj h1
theorem gY {cs : List Value} {k m o : Nat} {v : Value} (ho : o < m) (hv : cs[k + o]? = some v) : ((cs.drop k).take m)[o]? = some v := by
  rw [List.getElem?_take, if_pos ho, List.getElem?_drop]; exact hv
theorem Fq {t : TypeId} {fs : Array Field} {n : Nat} {cs : List Value} {y : DataW H × List MemPlace} (ht : Tryz.prog.underlying t = some (.struct fs)) (h : DataW.trod enc Tryz.prog w base spare held n t cs = some y) (i : Nat) {f : Field} (hf : fs[i]? = some f) {T k m : Nat} (hT : f.type = T) (hk : f.offset = k) (hm : Tryz.prog.cellsOf T = m) :
    cs.length = Tryz.prog.cellsOf t /\ ∃ n' y', DataW.trod enc Tryz.prog w base spare held n' T ((cs.drop k).take m) = some y' := by
  obtain ⟨xs, n', _, _, hl, hlen, hx⟩ := DataW.trod_struct ht h
  have h1 := hx i f hf
  rw [hT, hk, hm] at h1
  have hi : i < xs.length := by
    rw [hlen]
    have := (Array.getElem?_eq_some_iff.1 hf)
    exact this.1
  rw [List.getElem?_eq_getElem hi] at h1
  exact ⟨hl, n', _, h1⟩
theorem gG {t : TypeId} {fs : Array Field} {n : Nat} {cs : List Value} {y : DataW H × List MemPlace} (ht : Tryz.prog.underlying t = some (.struct fs)) (h : DataW.trod enc Tryz.prog w base spare held n t cs = some y) (i : Nat) {f : Field} (hf : fs[i]? = some f) (hT : f.type = 3) {k : Nat} (hk : f.offset = k) :
    ∃ a : Int, ∀ v, cs[k]? = some v -> Rd w (Zw w) v (.g (.int .i64 a)) := by
  obtain ⟨_, n', y', g⟩ := Fq ht h i hf hT hk cells3
  obtain ⟨a, e, _, _⟩ := DataW.trod_int Tryz.underlying3 g
  exact ⟨a, fun v hv => by rw [Ou e hv]; exact .g _ rfl⟩
theorem wT {t e : TypeId} (ht : Tryz.prog.underlying t = some (.slice e)) {n : Nat} {cs : List Value} {k : Nat} {y : DataW H × List MemPlace} (h : DataW.trod enc Tryz.prog w base spare held n t ((cs.drop k).take 1) = some y) : ∃ c, DataW.trod enc Tryz.prog w base spare held n t [c] = some y /\ ∀ v, cs[k]? = some v -> v = c := by
  obtain ⟨a, l, c, e⟩ := slice_form ht h
  exact ⟨_, by rw [e] at h; exact h, fun v hv => Ou e hv⟩
abbrev Ns : Type := {f : aF // f.Ok}
abbrev OpK : Type := {o : bT // o.f.Ok}
abbrev OA : Type := {s : aK // s.q <= 9223372036854775807}
abbrev PtK : Type := {p : wB // p.k <= 9223372036854775807 /\ ∀ i, i < p.k -> (p.o i).f.Ok}
instance : Inhabited Ns := ⟨⟨bL, jm⟩⟩
instance : Inhabited OpK := ⟨⟨⟨0, 0, bL, 0, 0, 0, 0, 0⟩, jm⟩⟩
instance : Inhabited OA := ⟨⟨⟨0, 0, fun _ => 0⟩, Nat.zero_le _⟩⟩
instance : Inhabited PtK := ⟨⟨⟨0, fun _ => ⟨0, 0, bL, 0, 0, 0, 0, 0⟩⟩, Nat.zero_le _, fun _ h => absurd h (Nat.not_lt_zero _)⟩⟩
theorem Wq : Tryz.prog.cellsOf 27 = 1 := by kernel_rfl
theorem Wh : Tryz.prog.cellsOf 63 = 1 := by kernel_rfl
theorem XA : Tryz.prog.cellsOf 64 = 1 := by kernel_rfl
theorem WW : Tryz.prog.cellsOf 22 = 1 := by kernel_rfl
theorem Wx : Tryz.prog.cellsOf 54 = 1 := by kernel_rfl
theorem Xa : Tryz.prog.cellsOf 23 = 1 := by kernel_rfl
theorem cells24 : Tryz.prog.cellsOf 24 = 1 := by kernel_rfl
theorem rH : Tryz.prog.cellsOf 62 = 2 := by kernel_rfl
theorem pF {n : Nat} {cs : List Value} {y : DataW H × List MemPlace} (h : DataW.trod enc Tryz.prog w base spare held n 62 cs = some y) : ∃ z : Nat -> Int, ∀ (o : Nat) v, cs[o]? = some v -> Rd w (Zw w) v (.g (.int .i64 (z o))) := by
  have hlen : cs.length = 2 := by rw [(Fq Tryz.underlying62 h 0 rfl rfl rfl rfl).1, rH]
  obtain ⟨a, ca⟩ := gG Tryz.underlying62 h 0 rfl rfl rfl (k := 0)
  obtain ⟨b, cb⟩ := gG Tryz.underlying62 h 1 rfl rfl rfl (k := 1)
  refine ⟨fun o => match o with | 0 => a | _ => b, fun o v hv => ?_⟩
  match o, hv with
  | 0, hv => exact ca _ hv
  | 1, hv => exact cb _ hv
  | o + 2, hv => rw [List.getElem?_eq_none (by omega)] at hv; cases hv
theorem GQ : Tryz.prog.cellsOf 151 = 6 := by kernel_rfl
theorem Pz {n : Nat} {cs : List Value} {y : DataW H × List MemPlace} (h : DataW.trod enc Tryz.prog w base spare held n 151 cs = some y) : ∃ z : Nat -> Int, ∀ (o : Nat) v, cs[o]? = some v -> Rd w (Zw w) v (.g (.int .i64 (z o))) := by
  have hlen : cs.length = 6 := by rw [(Fq Tryz.underlying151 h 0 rfl rfl rfl rfl).1, GQ]
  obtain ⟨_, n0, y0, g0⟩ := Fq Tryz.underlying151 h 0 rfl rfl rfl (k := 0) (T := 62) rH
  obtain ⟨p, r0⟩ := pF g0
  obtain ⟨_, n1, y1, g1⟩ := Fq Tryz.underlying151 h 1 rfl rfl rfl (k := 2) (T := 62) rH
  obtain ⟨q, r1⟩ := pF g1
  obtain ⟨c, cc⟩ := gG Tryz.underlying151 h 2 rfl rfl rfl (k := 4)
  obtain ⟨d, cd⟩ := gG Tryz.underlying151 h 3 rfl rfl rfl (k := 5)
  refine ⟨fun o => match o with | 0 => p 0 | 1 => p 1 | 2 => q 0 | 3 => q 1 | 4 => c | _ => d, fun o v hv => ?_⟩
  match o, hv with
  | 0, hv => exact r0 0 _ (gY (by omega) hv)
  | 1, hv => exact r0 1 _ (gY (by omega) hv)
  | 2, hv => exact r1 0 _ (gY (by omega) hv)
  | 3, hv => exact r1 1 _ (gY (by omega) hv)
  | 4, hv => exact cc _ hv
  | 5, hv => exact cd _ hv
  | o + 6, hv => rw [List.getElem?_eq_none (by omega)] at hv; cases hv
theorem Qk {c : Value} {n : Nat} {y : DataW H × List MemPlace} (h : DataW.trod enc Tryz.prog w base spare held n 63 [c] = some y) : ∃ (k : Nat) (s : Nat -> (Nat -> Int)), k <= 9223372036854775807 /\ Rd w (Zw w) c (.lst 2 k (bX s)) :=
  lU Tryz.underlying63 rH (by omega) (fun (z : Nat -> Int) o => .g (.int .i64 (z o))) (fun n cs y h hl => pF h) h
theorem PG {c : Value} {n : Nat} {y : DataW H × List MemPlace} (h : DataW.trod enc Tryz.prog w base spare held n 64 [c] = some y) : ∃ (k : Nat) (s : Nat -> (Nat -> Int)), k <= 9223372036854775807 /\ Rd w (Zw w) c (.lst 6 k (bX s)) :=
  lU Tryz.underlying64 GQ (by omega) (fun (z : Nat -> Int) o => .g (.int .i64 (z o))) (fun n cs y h hl => Pz h) h
theorem wV : Tryz.prog.cellsOf 66 = 9 := by kernel_rfl
theorem zX {n : Nat} {cs : List Value} {y : DataW H × List MemPlace} (h : DataW.trod enc Tryz.prog w base spare held n 66 cs = some y) : ∃ z : Ns, ∀ (o : Nat) v, cs[o]? = some v -> Rd w (Zw w) v (UE z.1 o) := by
  have hlen : cs.length = 9 := by rw [(Fq Tryz.underlying66 h 0 rfl rfl rfl rfl).1, wV]
  obtain ⟨a0, ca0⟩ := gG Tryz.underlying66 h 0 rfl rfl rfl (k := 0)
  obtain ⟨a1, ca1⟩ := gG Tryz.underlying66 h 1 rfl rfl rfl (k := 1)
  obtain ⟨_, n2, y2, g2⟩ := Fq Tryz.underlying66 h 2 rfl rfl rfl (k := 2) (T := 62) rH
  obtain ⟨p, r2⟩ := pF g2
  obtain ⟨a3, ca3⟩ := gG Tryz.underlying66 h 3 rfl rfl rfl (k := 4)
  obtain ⟨_, n4, y4, g4⟩ := Fq Tryz.underlying66 h 4 rfl rfl rfl (k := 5) (T := 63) Wh
  obtain ⟨c4, k4, e4⟩ := wT Tryz.underlying63 g4
  obtain ⟨m4, s4, b4, r4⟩ := Qk k4
  obtain ⟨a5, ca5⟩ := gG Tryz.underlying66 h 5 rfl rfl rfl (k := 6)
  obtain ⟨a6, ca6⟩ := gG Tryz.underlying66 h 6 rfl rfl rfl (k := 7)
  obtain ⟨_, n7, y7, g7⟩ := Fq Tryz.underlying66 h 7 rfl rfl rfl (k := 8) (T := 64) XA
  obtain ⟨c7, k7, e7⟩ := wT Tryz.underlying64 g7
  obtain ⟨m7, s7, b7, r7⟩ := PG k7
  refine ⟨⟨⟨a0, a1, p 0, p 1, a3, m4, s4, a5, a6, m7, s7⟩, b4, b7⟩, fun o v hv => ?_⟩
  match o, hv with
  | 0, hv => exact ca0 _ hv
  | 1, hv => exact ca1 _ hv
  | 2, hv => exact r2 0 _ (gY (by omega) hv)
  | 3, hv => exact r2 1 _ (gY (by omega) hv)
  | 4, hv => exact ca3 _ hv
  | 5, hv => rw [e4 _ hv]; exact r4
  | 6, hv => exact ca5 _ hv
  | 7, hv => exact ca6 _ hv
  | 8, hv => rw [e7 _ hv]; exact r7
  | o + 9, hv => rw [List.getElem?_eq_none (by omega)] at hv; cases hv
theorem Ma : Tryz.prog.cellsOf 112 = 16 := by kernel_rfl
theorem Tp {n : Nat} {cs : List Value} {y : DataW H × List MemPlace} (h : DataW.trod enc Tryz.prog w base spare held n 112 cs = some y) : ∃ z : OpK, ∀ (o : Nat) v, cs[o]? = some v -> Rd w (Zw w) v (acQ z.1 o) := by
  have hlen : cs.length = 16 := by rw [(Fq Tryz.underlying112 h 0 rfl rfl rfl rfl).1, Ma]
  obtain ⟨a0, ca0⟩ := gG Tryz.underlying112 h 0 rfl rfl rfl (k := 0)
  obtain ⟨a1, ca1⟩ := gG Tryz.underlying112 h 1 rfl rfl rfl (k := 1)
  obtain ⟨_, n2, y2, g2⟩ := Fq Tryz.underlying112 h 2 rfl rfl rfl (k := 2) (T := 66) wV
  obtain ⟨f, r2⟩ := zX g2
  obtain ⟨_, n3, y3, g3⟩ := Fq Tryz.underlying112 h 3 rfl rfl rfl (k := 11) (T := 62) rH
  obtain ⟨p, r3⟩ := pF g3
  obtain ⟨a4, ca4⟩ := gG Tryz.underlying112 h 4 rfl rfl rfl (k := 13)
  obtain ⟨a5, ca5⟩ := gG Tryz.underlying112 h 5 rfl rfl rfl (k := 14)
  obtain ⟨a6, ca6⟩ := gG Tryz.underlying112 h 6 rfl rfl rfl (k := 15)
  refine ⟨⟨⟨a0, a1, f.1, p 0, p 1, a4, a5, a6⟩, f.2⟩, fun o v hv => ?_⟩
  match o, hv with
  | 0, hv => exact ca0 _ hv
  | 1, hv => exact ca1 _ hv
  | 2, hv => exact r2 0 _ (gY (by omega) hv)
  | 3, hv => exact r2 1 _ (gY (by omega) hv)
  | 4, hv => exact r2 2 _ (gY (by omega) hv)
  | 5, hv => exact r2 3 _ (gY (by omega) hv)
  | 6, hv => exact r2 4 _ (gY (by omega) hv)
  | 7, hv => exact r2 5 _ (gY (by omega) hv)
  | 8, hv => exact r2 6 _ (gY (by omega) hv)
  | 9, hv => exact r2 7 _ (gY (by omega) hv)
  | 10, hv => exact r2 8 _ (gY (by omega) hv)
  | 11, hv => exact r3 0 _ (gY (by omega) hv)
  | 12, hv => exact r3 1 _ (gY (by omega) hv)
  | 13, hv => exact ca4 _ hv
  | 14, hv => exact ca5 _ hv
  | 15, hv => exact ca6 _ hv
  | o + 16, hv => rw [List.getElem?_eq_none (by omega)] at hv; cases hv
theorem QN {c : Value} {n : Nat} {y : DataW H × List MemPlace} (h : DataW.trod enc Tryz.prog w base spare held n 22 [c] = some y) : ∃ (k : Nat) (s : Nat -> Ns), k <= 9223372036854775807 /\ Rd w (Zw w) c (.lst 9 k (bq fun i => (s i).1)) :=
  lU Tryz.underlying22 wV (by omega) (fun (z : Ns) o => UE z.1 o) (fun n cs y h hl => zX h) h
theorem R8 {c : Value} {n : Nat} {y : DataW H × List MemPlace} (h : DataW.trod enc Tryz.prog w base spare held n 54 [c] = some y) : ∃ (k : Nat) (s : Nat -> OpK), k <= 9223372036854775807 /\ Rd w (Zw w) c (.lst 16 k (fu fun i => (s i).1)) :=
  lU Tryz.underlying54 Ma (by omega) (fun (z : OpK) o => acQ z.1 o) (fun n cs y h hl => Tp h) h
theorem Hy : Tryz.prog.cellsOf 48 = 2 := by kernel_rfl
theorem OZ {n : Nat} {cs : List Value} {y : DataW H × List MemPlace} (h : DataW.trod enc Tryz.prog w base spare held n 48 cs = some y) : ∃ z : OA, ∀ (o : Nat) v, cs[o]? = some v -> Rd w (Zw w) v (adG z.1 o) := by
  have hlen : cs.length = 2 := by rw [(Fq Tryz.underlying48 h 0 rfl rfl rfl rfl).1, Hy]
  obtain ⟨a0, ca0⟩ := gG Tryz.underlying48 h 0 rfl rfl rfl (k := 0)
  obtain ⟨_, n1, y1, g1⟩ := Fq Tryz.underlying48 h 1 rfl rfl rfl (k := 1) (T := 27) Wq
  obtain ⟨c1, k1, e1⟩ := wT Tryz.underlying27 g1
  obtain ⟨q, a, b1, r1⟩ := open_ints' k1
  refine ⟨⟨⟨a0, q, a⟩, b1⟩, fun o v hv => ?_⟩
  match o, hv with
  | 0, hv => exact ca0 _ hv
  | 1, hv => rw [e1 _ hv]; exact r1
  | o + 2, hv => rw [List.getElem?_eq_none (by omega)] at hv; cases hv
theorem LM {c : Value} {n : Nat} {y : DataW H × List MemPlace} (h : DataW.trod enc Tryz.prog w base spare held n 23 [c] = some y) : ∃ (k : Nat) (s : Nat -> OA), k <= 9223372036854775807 /\ Rd w (Zw w) c (.lst 2 k (fA fun i => (s i).1)) :=
  lU Tryz.underlying23 Hy (by omega) (fun (z : OA) o => adG z.1 o) (fun n cs y h hl => OZ h) h
theorem RH {n : Nat} {cs : List Value} {y : DataW H × List MemPlace} (h : DataW.trod enc Tryz.prog w base spare held n 54 cs = some y) (hl : cs.length = 1) : ∃ z : PtK, ∀ (o : Nat) v, cs[o]? = some v -> Rd w (Zw w) v (.lst 16 z.1.k (fu z.1.o)) := by
  match cs, hl with
  | [c], _ =>
    obtain ⟨k, s, hk, hz⟩ := R8 h
    refine ⟨⟨⟨k, fun i => (s i).1⟩, hk, fun i _ => (s i).2⟩, fun o v hv => ?_⟩
    rcases o with _ | o
    · simp at hv; subst hv; exact hz
    · simp at hv
theorem OT {c : Value} {n : Nat} {y : DataW H × List MemPlace} (h : DataW.trod enc Tryz.prog w base spare held n 24 [c] = some y) : ∃ (k : Nat) (s : Nat -> PtK), k <= 9223372036854775807 /\ Rd w (Zw w) c (.lst 1 k (iJ fun i => (s i).1)) :=
  lU Tryz.underlying24 Wx (by omega) (fun (z : PtK) _ => .lst 16 z.1.k (fu z.1.o)) (fun n cs y h hl => RH h hl) h
theorem FR : Tryz.prog.cellsOf 26 = 3 := by kernel_rfl
theorem PI {n : Nat} {cs : List Value} {y : DataW H × List MemPlace} (h : DataW.trod enc Tryz.prog w base spare held n 26 cs = some y) : ∃ z : bF, z.Ok /\ ∀ (o : Nat) v, cs[o]? = some v -> Rd w (Zw w) v (match o with | 0 => .lst 9 z.n (bq z.f) | 1 => .lst 2 z.m (fA z.S) | _ => .lst 1 z.mo (iJ z.O)) := by
  have hlen : cs.length = 3 := by rw [(Fq Tryz.underlying26 h 0 rfl rfl rfl rfl).1, FR]
  obtain ⟨_, n0, y0, g0⟩ := Fq Tryz.underlying26 h 0 rfl rfl rfl (k := 0) (T := 22) WW
  obtain ⟨c0, k0, e0⟩ := wT Tryz.underlying22 g0
  obtain ⟨kA, sA, bA, r0⟩ := QN k0
  obtain ⟨_, n1, y1, g1⟩ := Fq Tryz.underlying26 h 1 rfl rfl rfl (k := 1) (T := 23) Xa
  obtain ⟨c1, k1, e1⟩ := wT Tryz.underlying23 g1
  obtain ⟨kB, sB, bB, r1⟩ := LM k1
  obtain ⟨_, n2, y2, g2⟩ := Fq Tryz.underlying26 h 2 rfl rfl rfl (k := 2) (T := 24) cells24
  obtain ⟨c2, k2, e2⟩ := wT Tryz.underlying24 g2
  obtain ⟨kC, sC, bC, r2⟩ := OT k2
  refine ⟨⟨kA, fun i => (sA i).1, kB, fun i => (sB i).1, kC, fun i => (sC i).1⟩, ⟨bA, fun i _ => (sA i).2, bB, fun i _ => (sB i).2, bC, fun i _ => (sC i).2.1, fun i _ => (sC i).2.2⟩, fun o v hv => ?_⟩
  match o, hv with
  | 0, hv => rw [e0 _ hv]; exact r0
  | 1, hv => rw [e1 _ hv]; exact r1
  | 2, hv => rw [e2 _ hv]; exact r2
  | o + 3, hv => rw [List.getElem?_eq_none (by omega)] at hv; cases hv
theorem YV {α : Type} {cs : Array α} (h : cs.size = 3) : ∃ c0 c1 c2, cs = #[c0, c1, c2] := by
  obtain ⟨l⟩ := cs
  match l, h with
  | [c0, c1, c2], _ => exact ⟨c0, c1, c2, rfl⟩
theorem O8 (hv : Value.okWide Tryz.prog w r b0 26 v) (h : DataW.Trod enc Tryz.prog w base spare held 26 v d p) : ∃ z : bF, z.Ok /\ bZ w (Zw w) v (.agg [.lst 9 z.n (bq z.f), .lst 2 z.m (fA z.S), .lst 1 z.mo (iJ z.O)]) := by
  obtain ⟨cs, rfl, hsz⟩ := okWide_struct Tryz.underlying26 hv
  obtain ⟨c0, c1, c2, rfl⟩ := YV (hsz.trans FR)
  obtain ⟨fuel, hf⟩ := h
  obtain ⟨z, hN, hz⟩ := PI (cs := [c0, c1, c2]) (by simpa [Value.cells] using hf)
  exact ⟨z, hN, _, rfl, hz 0 c0 rfl, hz 1 c1 rfl, hz 2 c2 rfl, trivial⟩
theorem open_ints (hv : Value.okWide Tryz.prog w r b0 27 v) (h : DataW.Trod enc Tryz.prog w base spare held 27 v d p) : ∃ (k : Nat) (s : Nat -> Int), k <= 9223372036854775807 /\ bZ w (Zw w) v (.one (.lst 1 k (bG s))) := by
  obtain ⟨p0, len, cap, rfl⟩ := okWide_slice Tryz.underlying27 hv
  obtain ⟨fuel, hf⟩ := h
  obtain ⟨k, s, hk, hz⟩ := open_ints' (by simpa [Value.cells] using hf)
  exact ⟨k, s, hk, hz⟩
end
abbrev Gf : List (String × DataW Unit) := [("math/bits.deBruijn32tab", Rows.laid_math_bits_deBruijn32tab), ("math/bits.deBruijn64tab", Rows.laid_math_bits_deBruijn64tab)]
theorem g64 : Tryz.prog.globalNamed "math/bits.deBruijn64tab" = some 1 := by kernel_rfl
theorem t64 : (Tryz.prog.globals[1]?).map (·.type) = some 183 := by kernel_rfl
theorem ajb : ∃ e, Tryz.prog.underlying 183 = some (.array 64 e) /\ Tryz.prog.underlying e = some (.int .u8) /\ Tryz.prog.cellsOf e = 1 /\ Tryz.prog.cellsOf 183 = 64 := ⟨5, by kernel_rfl, by kernel_rfl, by kernel_rfl, by kernel_rfl⟩
def FD : List Int := Lib.deBruijn64tab.map Int.ofNat
theorem aer : (Rows.laid_math_bits_deBruijn64tab : DataW Unit) = Lib.tabData .u8 FD := rfl
theorem Qs (os : Os) (args : Array Value) : laidMetH Tryz.prog Gf ((World.doorLaid Tryz.prog 400 os).forCall (fun _ _ => 0) ⟨#[], args, []⟩).memory :=
  laidMetH_of_parts3 (fuel := 8) (laidMet_of_run' 8 (by kernel_rfl) (by kernel_rfl)) (by kernel_rfl) (by kernel_rfl)
theorem IX {W : World} (h : laidMetH Tryz.prog Gf W) : Tab W := by
  rw [MakeChecks.laidMetH_plain _ _ _ (by kernel_rfl)] at h
  obtain ⟨ps, ⟨g0, t0, cs0, f0, p0, q0, hg0, ht0, hv0, hd0, ⟨g1, t1, cs1, f1, p1, q1, hg1, ht1, hv1, hd1, _, _⟩, _⟩, _, _⟩ := h
  obtain rfl := Option.some.inj (g64.symm.trans hg1)
  obtain rfl := Option.some.inj (t64.symm.trans ht1)
  obtain ⟨e, e1, e2, e3, e4⟩ := ajb
  rw [aer] at hd1
  have hcs := Lib.cells_of_tab e1 e2 e3 e4 hd1
  intro j hj
  rw [World.var?_cell g64 hv1 j]
  have : cs1 = (FD.map fun z => Value.int .u8 z).toArray := by rw [<- hcs]
  rw [this]
  have hj2 : j < (FD.map fun z => Value.int .u8 z).length := by simpa [FD] using hj
  simp [FD, List.getD_eq_getElem?_getD, List.getElem?_eq_getElem hj]
end Go.Proofs.YtmnejmpjmniiiaaGreatDoor
namespace Go.Proofs.YtmnejmpjmniiiaaGreatDoor
open Go.RowKit Go.Sea Go.Lib
theorem IU (w : World) (o : Obj) : Below w.heap.size w (w.alloc o) := by
  refine ⟨rfl, rfl, rfl, by simp, fun k hk => ?_⟩
  exact Below.heap_alloc _ _ _ hk
theorem SI : Tryz.prog.underlying 22 = some (.slice 66) := by kernel_rfl
theorem ags : (Tryz.prog.info? 66).map (fun i => (i.size, i.bytes, i.zero.map (·.cells.size))) = some (9, 104, some 9) := by kernel_rfl
set_option maxHeartbeats 4000000 in
set_option maxRecDepth 100000 in
set_option maxHeartbeats 2000000 in
theorem Kj (cap : Nat) (w : World) : Calls Tryz.prog 82 #[.slice none 0 cap] w fun e w' => e = .returned (.slice none 0 0) /\ w' = w := by
  have q : (binOp .eql 22 (.slice none 0 cap) (.slice none 0 0)).run Tryz.prog w = .ok (.bool true) w := run_eql_slice_nil w 22 66 none 0 cap 0 0 SI
  go_enter Tryz.func82, Tryz.ntmps82
  go_wp2
  go_ret
  exact ⟨rfl, rfl⟩
set_option maxHeartbeats 4000000 in
set_option maxRecDepth 100000 in
theorem xO (p : Addr) (n cap : Nat) (w w' : World) (u : Value) (h : ∀ ty, (Builtin.append_ #[22,22] ty #[.slice (some ⟨w.heap.size, 0, none⟩) 0 0, .slice (some p) n cap]).run Tryz.prog (w.alloc (.cells #[] 66)) = .ok u w') : Calls Tryz.prog 82 #[.slice (some p) n cap] w fun e w'' => e = .returned u /\ w'' = w' := by
  have q : (binOp .eql 22 (.slice (some p) n cap) (.slice none 0 0)).run Tryz.prog w = .ok (.bool false) w := run_eql_slice_nil w 22 66 (some p) n cap 0 0 SI
  go_enter Tryz.func82, Tryz.ntmps82
  go_wp2_with (at_builtin; refine Lib.wpList_append_run _ rfl _ _ _ _ rfl _ _ rfl rfl _ _ (h _) ?_)
  all_goals (go_ret; exact ⟨rfl, rfl⟩)
set_option maxHeartbeats 2000000 in
theorem Sn (n : Nat) (f : Nat -> Nat -> IV) (hn : n <= 1000) : pY Tryz.prog 82 [.one (.iv (.lst 9 n f))] (iD f 9 n 0) (fun i => .t (.one (.slc i 0 n 9))) := by
  intro H i hH w0 Z0 J Z s a w vs R hs hv
  subst hs
  obtain ⟨vs⟩ := vs
  match vs, hv with
  | [v], ⟨hv, _⟩ =>
    have hv : Rd w Z v (.lst 9 n f) := hv
    have hlen : (iD f 9 n 0).length = n * 9 := nN f 9 n 0
    have empty : ∀ (p : Addr) (cap : Nat), n = 0 -> v = .slice (some p) 0 cap -> Calls Tryz.prog 82 #[v] w fun e w' => ∃ v J' Z', e = .returned v /\ Rel w0 Z0 J' Z' { s with heap := hset s.heap i (iD f 9 n 0) } a w' /\ bD w' J' Z' v (.t (.one (.slc i 0 n 9))) := fun p cap h0 ev => by
      subst h0; subst ev
      obtain ⟨ii, h33⟩ : ∃ ii, Tryz.prog.info? 66 = some ii := by
        have := ags
        cases h : Tryz.prog.info? 66 with
        | none => rw [h] at this; cases this
        | some i => exact ⟨i, rfl⟩
      refine (xO p 0 cap w _ _ fun ty => kr SI h33 _ _ 0 0 cap (Nat.le_refl _)).mono fun e w' ⟨he, hw⟩ => ?_
      subst hw
      have R1 := R.new (nid := i) (cs := []) (c := #[]) (e := 66) (H := hset s.heap i []) hH (bn _ _ _) (fun q hq => bE _ _ _ _ hq) (by simp [aU])
      exact ⟨_, _, _, he, R1, Or.inr ⟨w.heap.size, 0, #[], 66, rfl, by simp [gI], Nat.zero_le _, Nat.zero_le _, heap_alloc_new w _, by simp⟩⟩
    have hv0 := hv
    cases hv with
    | nil p cap =>
      cases p with
      | none =>
        refine (Kj cap w).mono fun e w' ⟨he, hw⟩ => ?_
        subst hw
        exact ⟨_, J, Z, he, R.Hu (nid := i) hH (by rw [bn]; rfl) (fun q hq => bE _ _ _ _ hq), Or.inl ⟨rfl, rfl⟩⟩
      | some p => exact empty p cap rfl rfl
    | lst b off _ cap _ _ X hz hc hm h1 h2 =>
      by_cases h0 : n = 0
      · exact empty ⟨b, off, none⟩ cap h0 (by rw [h0])
      · obtain ⟨hR1, G⟩ := R.call (IU w (.cells #[] 66))
        have hv1 : bS (w.alloc (.cells #[] 66)) J (fun b => Z b \/ (w.heap.size <= b /\ b < (w.alloc (.cells #[] 66)).heap.size)) (.slice (some ⟨b, off, none⟩) n cap) (.one (.iv (.lst 9 n f))) := bQ.grow G (CV.bM (.iv (.lst 9 n f))) hv0
        obtain ⟨ii, z, t1, t2, t3, t4, t5, t6, t7⟩ := iB (P := Tryz.prog) (t := 22) (e := 66) (n := 9) (b := 104) (by kernel_rfl)
        rcases ru hR1 (size := 9) (m := n) (nd := True) (x := .one (.iv (.lst 9 n f))) (ns := iD f 9 n 0) (by simp [Ch]) trivial hv1 with ⟨h, _⟩ | ⟨hpos, b2, off2, cap2, news, e2, n1, n2, n3, n4⟩
        · exact absurd h h0
        · cases e2
          have hrun := fun ty => run_append_grow (P := Tryz.prog) (w.alloc (.cells #[] 66)) 22 ty 66 ii z t1 t2 t3 ⟨w.heap.size, 0, none⟩ 0 0 [] (by simp) (fun j v h => by simp at h) ⟨b, off, none⟩ n cap news (by rw [n1, t5]) n2 (by omega) (by omega) (by
            rw [t6]; exact growslice_fits (by omega) (by omega))
          simp only [Nat.zero_add] at hrun
          have hsz := grownCap_ge (w.alloc (.cells #[] 66)) n 0 66
          have hmx := grownCap_le_maxLen (w.alloc (.cells #[] 66)) n 0 66 (by unfold maxLen; omega)
          generalize grownCap (w.alloc (.cells #[] 66)) n 0 66 = G at hrun hsz hmx
          have hC : G * 9 <= (([] : List Value).toArray ++ news.toArray ++ Builtin.zeroCells z.cells (G - n)).size := by
            simp only [Array.size_append, size_zeroCells, t4, List.size_toArray, n1, List.length_nil]
            omega
          have hD : aU (bQ (w.alloc (.cells #[] 66)) J (fun b => Z b \/ (w.heap.size <= b /\ b < (w.alloc (.cells #[] 66)).heap.size))) ((([] : List Value).toArray ++ news.toArray ++ Builtin.zeroCells z.cells (G - n)).toList.take (iD f 9 n 0).length) (iD f 9 n 0) := by
            rw [Array.toList_append, Array.toList_append, List.nil_append, List.take_append_of_le_length (by simp; omega), List.take_of_length_le (by simp; omega)]
            exact n4
          generalize ([] : List Value).toArray ++ news.toArray ++ Builtin.zeroCells z.cells (G - n) = C at hrun hC hD
          have cl := xO ⟨b, off, none⟩ n cap w _ _ hrun
          have R2 := (hR1.drew).new (nid := i) (cs := iD f 9 n 0) (c := C) (e := 66) (H := hset s.heap i (iD f 9 n 0)) hH (bn _ _ _) (fun q hq => bE _ _ _ _ hq) (wZ hD)
          have hA := heap_alloc_new (w.alloc (.cells #[] 66)).drew (.cells C 66)
          generalize hw1 : w.alloc (.cells #[] 66) = w1 at cl R2 hA
          refine cl.mono fun e w' ⟨he, hw⟩ => ?_
          subst hw
          exact ⟨_, _, _, he, R2, Or.inr ⟨_, _, _, 66, rfl, by simp [gI], hsz, hmx, hA, by rw [Nat.zero_add]; exact hC⟩⟩
end Go.Proofs.YtmnejmpjmniiiaaGreatDoor
namespace Go.Proofs
open Go.Shelf
def Tryz.BX : Go.Shelf.Ren := ⟨fun | 27 => 111 | 28 => 138 | 29 => 139 | n => n, fun | 25 => 88 | 3 => 3 | 27 => 153 | 22 => 155 | 4 => 4 | 53 => 182 | 0 => 0 | 5 => 5 | 54 => 183 | n => n, fun | 0 => 0 | 1 => 1 | n => n⟩
theorem Tryz.PZ : Go.Proofs.Lays7.n27 Tryz.prog Tryz.BX := {
  mixed := by kernel_rfl
  f27 := Tryz.func111.trans (congrArg some (by kernel_rfl))
  f28 := Tryz.func138.trans (congrArg some (by kernel_rfl))
  f29 := Tryz.func139.trans (congrArg some (by kernel_rfl))
  t0 := Tryz.underlying0
  a0 := Tryz.isAgg0
  z0 := Tryz.sizeOf0
  v0 := Tryz.zeroValue0
  i0 := by kernel_rfl
  t3 := Tryz.underlying3
  a3 := Tryz.isAgg3
  z3 := Tryz.sizeOf3
  v3 := Tryz.zeroValue3
  i3 := by kernel_rfl
  t4 := Tryz.underlying4
  a4 := Tryz.isAgg4
  z4 := Tryz.sizeOf4
  v4 := Tryz.zeroValue4
  i4 := by kernel_rfl
  t5 := Tryz.underlying5
  a5 := Tryz.isAgg5
  z5 := Tryz.sizeOf5
  v5 := Tryz.zeroValue5
  i5 := by kernel_rfl
  t22 := Tryz.underlying155
  a22 := Tryz.isAgg155
  z22 := Tryz.sizeOf155
  v22 := Tryz.zeroValue155
  i22 := by kernel_rfl
  t25 := Tryz.underlying88
  a25 := Tryz.isAgg88
  z25 := Tryz.sizeOf88
  v25 := Tryz.zeroValue88
  i25 := by kernel_rfl
  t27 := Tryz.underlying153
  a27 := Tryz.isAgg153
  z27 := Tryz.sizeOf153
  v27 := Tryz.zeroValue153
  i27 := by kernel_rfl
  t53 := Tryz.underlying182
  a53 := Tryz.isAgg182
  z53 := Tryz.sizeOf182
  v53 := Tryz.zeroValue182
  i53 := by kernel_rfl
  t54 := Tryz.underlying183
  a54 := Tryz.isAgg183
  z54 := Tryz.sizeOf183
  g0 := by kernel_rfl
  g1 := by kernel_rfl }
open Go.RowKit in
theorem Tryz.bits_TrailingZeros (x : Nat) (hx : x < 18446744073709551616) (w : World) (hT : x ≠ 0 -> TabAt 1 Lib.deBruijn64tab w) :
    Calls Tryz.prog 111 #[.int .u64 x] w fun e w' => e = .returned (.int .i64 (Lib.ctz 64 x)) /\ w' = w := Any7.bits_TrailingZeros Tryz.PZ x hx w hT
end Go.Proofs
