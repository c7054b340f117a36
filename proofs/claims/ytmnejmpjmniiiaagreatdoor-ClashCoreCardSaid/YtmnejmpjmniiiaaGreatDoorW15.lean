/- Part 15 of 16: contracts of functions and plain laws for the root text. No condition. -/
import Derived.Test.YtmnejmpjmniiiaaGreatDoorW01
import Derived.Test.YtmnejmpjmniiiaaGreatDoorW02
import Derived.Test.YtmnejmpjmniiiaaGreatDoorW03
import Derived.Test.YtmnejmpjmniiiaaGreatDoorW04
import Derived.Test.YtmnejmpjmniiiaaGreatDoorW05
import Derived.Test.YtmnejmpjmniiiaaGreatDoorW06
import Derived.Test.YtmnejmpjmniiiaaGreatDoorW07
import Derived.Test.YtmnejmpjmniiiaaGreatDoorW08
import Derived.Test.YtmnejmpjmniiiaaGreatDoorW09
import Derived.Test.YtmnejmpjmniiiaaGreatDoorW10
import Derived.Test.YtmnejmpjmniiiaaGreatDoorW11
import Derived.Test.YtmnejmpjmniiiaaGreatDoorW12
import Derived.Test.YtmnejmpjmniiiaaGreatDoorW13
import Derived.Test.YtmnejmpjmniiiaaGreatDoorW14
set_option linter.unusedVariables false
set_option linter.unusedSimpArgs false
set_option linter.unusedSectionVars false
set_option linter.deprecated false
set_option maxRecDepth 100000
set_option maxHeartbeats 4000000
namespace Go.Proofs.YtmnejmpjmniiiaaGreatDoor
open Go.RowKit Go.Sea
open Nat renaming reduceAdd → xA, reduceLT → xL, reduceLeDiff → xD, reduceEqDiff → xE, reduceMul → xM, reduceSub → xS, reduceBEq → xB
theorem fnok_61 : fnOk Tryz.prog 61 = true := by kernel_rfl
theorem fnok_86 : fnOk Tryz.prog 86 = true := by kernel_rfl
theorem fnok_87 : fnOk Tryz.prog 87 = true := by kernel_rfl
theorem in_88 : inD Tryz.prog 88 = some .u64 := by kernel_rfl
attribute [go_sem] fnok_61 fnok_86 in_88
def cmpV (a b : Int) : Int := if a < b then -1 else if b < a then 1 else 0
theorem cmpV_lt (a b : Int) : (cmpV a b < 0) = (a < b) := by unfold cmpV; refine propext ?_; split <;> (try split) <;> omega
theorem cmpV_eq (a b : Int) : (cmpV a b = 0) = (a = b) := by unfold cmpV; refine propext ?_; split <;> (try split) <;> omega
theorem seaMid (i j : Nat) (h1 : i ≤ 1000000) (h2 : j ≤ 1000000) : IntKind.i64.wrap ((IntKind.u64.wrap ((i : Int) + (j : Int))).fdiv (2 ^ min (Int.toNat 1) 64)) = (((i + j) / 2 : Nat) : Int) := by
  have e1 : IntKind.u64.wrap ((i : Int) + (j : Int)) = (i : Int) + (j : Int) := by
    unfold IntKind.wrap IntKind.signed IntKind.bits
    simp only
    split <;> simp_all <;> omega
  have e2 : ((2 : Int) ^ min (Int.toNat 1) 64) = 2 := by decide
  rw [e1, e2, Int.fdiv_eq_ediv_of_nonneg _ (by omega), seaWrap (by omega) (by omega)]
  omega
def stp0 : StepS := ⟨0, 0, fun _ => 0⟩
def fnB (S : Nat → StepS) (m : Nat) (y : Int) : Bool := decide (ixM S m y < m)
def fnS (S : Nat → StepS) (m : Nat) (y : Int) : StepS := if fnB S m y = true then S (ixM S m y) else stp0
theorem fn_hit {S : Nat → StepS} {m i : Nat} {y : Int} (hi : i < m) (h : (S i).nu = y) (g : ∀ k, k < i → (S k).nu < y) : fnS S m y = S i ∧ fnB S m y = true := by
  have e : ixM S m y = i := ix_of hi h fun j hj e => by have := g j hj; omega
  have e2 : fnB S m y = true := decide_eq_true (by rw [e]; exact hi)
  refine ⟨?_, e2⟩
  unfold fnS; rw [if_pos e2, e]
theorem fn_mis {S : Nat → StepS} {m : Nat} {y : Int} (g : ∀ k, k < m → (S k).nu ≠ y) : fnS S m y = stp0 ∧ fnB S m y = false := by
  have h := ix_no (S := S) (m := m) (t := m) (x := y) (by omega) g
  have e2 : fnB S m y = false := decide_eq_false (by omega)
  refine ⟨?_, e2⟩
  unfold fnS; rw [if_neg (by rw [e2]; simp)]
theorem st_lo {S : Nat → StepS} {m : Nat} {y : Int} (hv : vsB S m = true) {i : Nat} (hi : i < m) (hc : (S i).nu < y) : ∀ k, k < i + 1 → (S k).nu < y := fun k hk => by
  by_cases e : k = i
  · subst e; exact hc
  · have := nu_lt hv (by omega : k < i) hi; omega
theorem st_hi {S : Nat → StepS} {m : Nat} {y : Int} (hv : vsB S m = true) {i : Nat} (hc : y ≤ (S i).nu) : ∀ k, i ≤ k → k < m → y ≤ (S k).nu := fun k hk hn => by
  by_cases e : k = i
  · subst e; exact hc
  · have := nu_lt hv (by omega : i < k) hn; omega
theorem fn_1 {S : Nat → StepS} {m : Nat} {y : Int} (hv : vsB S m = true) {i j : Nat} (hlo : ∀ k, k < i → (S k).nu < y) (hhi : ∀ k, j ≤ k → k < m → y ≤ (S k).nu) (hji : (j : Int) ≤ i) (hi : (i : Int) < m) (hc : cmpV (S i).nu y ≠ 0) : fnS S m y = stp0 ∧ fnB S m y = false := by
  have h0 : (S i).nu ≠ y := fun e => hc (by rw [cmpV_eq]; exact e)
  have h1 := hhi i (by omega) (by omega)
  refine fn_mis fun k hk => ?_
  rcases Nat.lt_trichotomy k i with g | g | g
  · have := hlo k g; omega
  · subst g; exact h0
  · have := nu_lt hv g hk; omega
def tkM (b : Nat → Int) (i : Nat) : List Int := (List.range i).map b
theorem tkM_0 (b : Nat → Int) : tkM b 0 = [] := rfl
theorem tkM_s (b : Nat → Int) (i : Nat) : tkM b (i + 1) = tkM b i ++ [b i] := by unfold tkM; rw [List.range_succ, List.map_append]; rfl
theorem tkM_mem {b : Nat → Int} {i : Nat} {x : Int} : (tkM b i).contains x = true ↔ ∃ j, j < i ∧ b j = x := by unfold tkM; simp
def okO (S : Nat → StepS) (m : Nat) (b : Nat → Int) (i : Nat) : Prop := fnB S m (b i) = true ∧ (tkM b i).contains (b i) = false ∧ allB (tkM b i) (fnS S m (b i)).q (fnS S m (b i)).a = true
instance (S : Nat → StepS) (m : Nat) (b : Nat → Int) (i : Nat) : Decidable (okO S m b i) := by unfold okO; infer_instance
def pmI (S : Nat → StepS) (m r : Nat) (b : Nat → Int) : Nat := fstB (fun i => !decide (okO S m b i)) r
def pmV (S : Nat → StepS) (m r : Nat) (b : Nat → Int) : Int := if vsB S m = false ∨ r > 200 then 0 else if pmI S m r b < r then (pmI S m r b : Int) else -1
def pmE (S : Nat → StepS) (m r : Nat) : Int := if vsB S m = false ∨ r > 200 then 1 else 0
theorem pm_e {S : Nat → StepS} {m r : Nat} {b : Nat → Int} (h : vsB S m = false ∨ r > 200) : 0 = pmV S m r b ∧ 1 = pmE S m r := by unfold pmV pmE; rw [if_pos h, if_pos h]; exact ⟨rfl, rfl⟩
theorem pm_f {S : Nat → StepS} {m r : Nat} {b : Nat → Int} {i : Nat} (hv : vsB S m = true) (hr : ¬ (r : Int) > 200) (hi : (i : Int) < r) (h : ¬ okO S m b i) (g : ∀ k, k < i → okO S m b k) : (i : Int) = pmV S m r b ∧ 0 = pmE S m r := by
  have n0 : ¬ (vsB S m = false ∨ r > 200) := fun e => e.elim (fun e => by rw [hv] at e; cases e) (fun e => by omega)
  have e : pmI S m r b = i := fstB_h (b := fun i => !decide (okO S m b i)) (by simpa using h) (fun j hj => by simpa using g j hj) r (by omega)
  unfold pmV pmE; rw [if_neg n0, if_neg n0, e, if_pos (by omega)]; exact ⟨rfl, rfl⟩
theorem pm_t {S : Nat → StepS} {m r : Nat} {b : Nat → Int} {i : Nat} (hv : vsB S m = true) (hr : ¬ (r : Int) > 200) (hi : (r : Int) ≤ i) (g : ∀ k, k < i → okO S m b k) : -1 = pmV S m r b ∧ 0 = pmE S m r := by
  have n0 : ¬ (vsB S m = false ∨ r > 200) := fun e => e.elim (fun e => by rw [hv] at e; cases e) (fun e => by omega)
  have e : pmI S m r b = r := fstB_t r fun j hj => by simpa using g j (by omega)
  unfold pmV pmE; rw [if_neg n0, if_neg n0, e, if_neg (by omega)]; exact ⟨rfl, rfl⟩
theorem pm_ok {S : Nat → StepS} {m r : Nat} {b : Nat → Int} (h : pmE S m r = 0) (h2 : pmV S m r b < 0) : ∀ k, k < r → okO S m b k := by
  have n0 : ¬ (vsB S m = false ∨ r > 200) := fun g => by unfold pmE at h; rw [if_pos g] at h; exact absurd h (by decide)
  unfold pmV at h2
  rw [if_neg n0] at h2
  have h3 : ¬ pmI S m r b < r := fun g => by rw [if_pos g] at h2; omega
  have h4 := fstB_le (fun i => !decide (okO S m b i)) r
  intro k hk
  have := fstB_lo (b := fun i => !decide (okO S m b i)) r k (by unfold pmI at h3; omega)
  simpa using this
theorem fnS_q {S : Nat → StepS} {m : Nat} (hq : ∀ i, i < m → (S i).q ≤ 9223372036854775807) (y : Int) : (fnS S m y).q ≤ 9223372036854775807 := by
  unfold fnS
  split
  · rename_i h; exact hq _ (of_decide_eq_true h)
  · exact Nat.zero_le _
theorem ok_cs (S : Nat → StepS) (m : Nat) (b : Nat → Int) (i : Nat) : (fnB S m (b i) = false ∧ True) ∨ (fnB S m (b i) = true ∧ (tkM b i).contains (b i) = true) ∨ (fnB S m (b i) = true ∧ (tkM b i).contains (b i) = false) := by
  cases fnB S m (b i) <;> cases (tkM b i).contains (b i) <;> simp
theorem fnd1_p (s : StepS) (y : Int) : CallsP Tryz.prog 87 [.agg [.g (.int .i64 s.nu), .lst 1 s.q (intI s.a)], .one (.g (.int .i64 y))] (.t (.one (.g (.int .i64 (cmpV s.nu y))))) := by
  refine CallsP_of Tryz.func87 rfl (by rw [Tryz.ntmps87]; simp) ?_
  simp only [Tryz.ntmps87, zM, PT.tv, argEnv, Nat.zero_add, Nat.reduceAdd]
  repeat' (first
 | ((with_reducible show AW _ _ _ _); first
 | (with_reducible first | refine aS (fun K hK => ?_) | refine aT ?_)
 | (first
 | (with_reducible first | refine aP 0 [0,1] ?_ | refine aP 1 [1,2] ?_)))
 | (((with_reducible refine Need.mk ?_)); focus (exact True.intro))
 | (with_reducible refine retK_n ?_)
 | ((with_reducible show callN _ _ _ _ _ _ _ _ _ _); first
 | (refine callN_q (k := 88) fnok_88 (gcmp_p _ _) ?_ ?_))
 | ((fail_if_success (with_reducible show AW _ _ _ _)); simp (maxSteps := 2000000) only [go_sem, reduceIte, reduceCtorEq, xA, xL, xD, xE, xM, xS, xB, Tryz.f87])
 | ((with_reducible refine hK _ ?_); clear hK K))
  all_goals (rfl)
theorem fnd_p (S : Nat → StepS) (m : Nat) (hv : vsB S m = true) (hq : ∀ i, i < m → (S i).q ≤ 9223372036854775807) (y : Int) : CallsP Tryz.prog 61 [.one (.lst 2 m (stF S)), .one (.g (.int .i64 y))] (.tup [.agg [.g (.int .i64 (fnS S m y).nu), .lst 1 (fnS S m y).q (intI (fnS S m y).a)], .one (.g (.bool (fnB S m y)))]) := by
  have hmid : True := trivial
  have hn2 := (of_decide_eq_true hv).1
  refine CallsP_of Tryz.func61 rfl (by rw [Tryz.ntmps61]; simp) ?_
  simp only [Tryz.ntmps61, zM, PT.tv, argEnv, Nat.zero_add, Nat.reduceAdd]
  repeat' (first
 | ((refine callGK_s ?_ ?_) <;> (intro hc; (try rw [hc]); (try simp only [zB, zC, reduceCtorEq] at hc); (try (exfalso; contradiction))))
 | ((with_reducible show AW _ _ _ _); first
 | (with_reducible first | refine aS (fun K hK => ?_) | refine aI ?_ | refine aX ?_ | refine aT ?_ | refine aC ?_ | refine aB ?_)
 | (first
 | (with_reducible first | refine aP (ops := #[⟨some 4, _, _, _, _, _⟩, _]) 0 [0,1] ?_ | refine aP (ops := #[⟨some 6, _, _, _, _, _⟩, _]) 0 [0,1,2] ?_ | refine aP (ops := #[⟨some 9, _, _, _, _, _⟩, _, _, _, _, _, _, _]) 1 [0,1,4] ?_ | refine aP (ops := #[⟨some 12, _, _, _, _, _⟩, _, _]) 1 [0,1,2] ?_ | refine aP (ops := #[⟨some 14, _, _, _, _, _⟩, _]) 2 [0,4,6,7] ?_ | refine aP (ops := #[⟨some 14, _, _, _, _, _⟩, _, _]) 2 [0,1,2,8] ?_ | refine aP (ops := #[⟨some 16, _, _, _, _, _⟩, _, _]) 3 [4] ?_ | refine aP (ops := #[⟨some 15, _, _, _, _, _⟩, _, _]) 3 [0,1,2,8,9,10] ?_ | refine aP (ops := #[⟨some 17, _, _, _, _, _⟩, _, _, _, _, _]) 4 [0,4,6] ?_ | refine aP (ops := #[⟨some 18, _, _, _, _, _⟩, _, _, _, _, _, _]) 4 [0,1,2,8,9,10] ?_ | refine aP 5 [0,1,2,8,9,10,11] ?_ | refine aP 6 [0,1,2,8,10,11] ?_ | refine aP 7 [0,1,2,8,9,11] ?_ | refine aP 8 [0,1,2,8,9] ?_))
 | ((with_reducible show AW _ (Code.loop _) _ _); first
 | ((with_reducible refine aL (c := (Code.seq (Code.seq (Code.region 3 _ _) _) _)) (ι := (Nat × Nat)) [0,1,2,8] (fun ⟨i, j⟩ => [(9, iA .i64 (i : Int)), (10, iA .i64 (j : Int))]) (fun ⟨i, j⟩ => []) (fun ⟨i, j⟩ => (i ≤ j ∧ j ≤ m) ∧ (∀ k, k < i → (S k).nu < y) ∧ (∀ k, j ≤ k → k < m → y ≤ (S k).nu)) (fun ⟨i, j⟩ => j - i) ⟨0, m⟩ ?lg3 ?l13 ?l23 ?li3 ?lr3); (case' lg3 => rintro ⟨i, j⟩ _); (case' li3 => try (exact ⟨⟨Nat.zero_le _, Nat.le_refl _⟩, fun k h => absurd h (Nat.not_lt_zero _), fun k h1 h2 => absurd h2 (by omega)⟩)); (case' lr3 => rintro ⟨i, j⟩ ⟨hij, hlo, hhi⟩ KR hR3; clear hmid; have hmid := seaMid i j (by omega) (by omega); simp only [keepE, hupd, hset, lk, if_true, if_false, xE, reduceIte, zN, stF0, stF1, cmpV_lt, cmpV_eq, hmid]))))
 | ((first | (with_reducible refine And.intro ?_ ?_) | (with_reducible refine Need.mk ?_)); focus (first | exact True.intro | omega | (simp (disch := omega) only [Bool.and_eq_true, Bool.or_eq_true, decide_eq_true_eq, bne_iff_ne, ne_eq] at *; omega)))
 | (with_reducible refine retK_n ?_)
 | ((with_reducible show condN _ _ _ _ _ _); first
 | ((with_reducible refine condN_t ?_ ?_) <;> (intro hc; (try simp only [zB, zC, reduceCtorEq] at hc); (try (exfalso; contradiction)))))
 | ((with_reducible show callN _ _ _ _ _ _ _ _ _ _); first
 | (refine callN_q (k := 87) fnok_87 (fnd1_p (S ((i + j) / 2)) y) ?_ ?_)
 | (refine callN_q (k := 87) fnok_87 (fnd1_p (S i) y) ?_ ?_)
 | ((refine callN_i (k := 86) Tryz.func86 rfl fnok_86 (by rw [Tryz.ntmps86]; simp) ?_ ?_ (fun K hK => ?_)); (focus (exact True.intro)); (focus ((simp [lsF]; done))); simp only [Tryz.ntmps86, List.map_cons, List.map_nil, List.nil_append, List.cons_append, List.append_nil, LV.tv, argEnv, Nat.zero_add, Nat.reduceAdd]))
 | ((with_reducible refine hR3 _ ⟨(i + j) / 2 + 1, j⟩ ?_); (try clear hR3 KR); (with_reducible refine Told.mk ?_); simp only [go_sem, reduceIte, reduceCtorEq, xA, xL, xD, xE, xM, xS, xB, stF0, stF1, intI, cmpV_lt, cmpV_eq, hmid]; ((try simp (disch := omega) only [seaWrap, Int.natCast_add, Int.cast_ofNat_Int, and_true, true_and, and_self]); (repeat' (first | omega | (with_reducible refine And.intro ?_ ?_) | ((exact st_lo hv (by omega) hc)))); done))
 | ((with_reducible refine hR3 _ ⟨i, (i + j) / 2⟩ ?_); (try clear hR3 KR); (with_reducible refine Told.mk ?_); simp only [go_sem, reduceIte, reduceCtorEq, xA, xL, xD, xE, xM, xS, xB, stF0, stF1, intI, cmpV_lt, cmpV_eq, hmid]; (((try simp (disch := omega) only [seaWrap, Int.natCast_add, Int.cast_ofNat_Int, and_true, true_and, and_self]); (repeat' (first | omega | (with_reducible refine And.intro ?_ ?_) | ((exact st_hi hv hc)))); done)))
 | ((with_reducible refine Told.mk ?_); simp only [go_sem, reduceIte, reduceCtorEq, xA, xL, xD, xE, xM, xS, xB, stF0, stF1, intI, cmpV_lt, cmpV_eq, hmid] <;> ((((try simp (disch := omega) only [seaWrap, Int.natCast_add, Int.cast_ofNat_Int, and_true, true_and, and_self]); (repeat' (exact True.intro)); done))))
 | ((fail_if_success (with_reducible show AW _ _ _ _)); simp (maxSteps := 2000000) only [go_sem, reduceIte, reduceCtorEq, xA, xL, xD, xE, xM, xS, xB, Tryz.f61, Tryz.f86, stF0, stF1, intI, cmpV_lt, cmpV_eq, hmid])
 | ((fail_if_success (with_reducible show AW _ _ _ _)); simp (disch := omega) only [seaWrap, seaDiv, seaMod])
 | ((with_reducible refine hK _ ?_); clear hK K)
 | (with_reducible apply_assumption -exfalso only [*]))
  all_goals (first | (have e := fn_1 hv hlo hhi (by omega) (by omega) hc; rw [e.1, e.2]; (exact ⟨⟨rfl, rfl⟩, rfl⟩); done) | (have e := fn_hit (m := m) (S := S) (y := y) (i := i) (by omega) (Eq.mp (cmpV_eq _ _) hc) hlo; rw [e.1, e.2]; (simp); done) | (have e := fn_mis (m := m) (S := S) (y := y) (fun k hk => by have := hlo k (by omega); omega); rw [e.1, e.2]; (exact ⟨⟨rfl, rfl⟩, rfl⟩); done))
theorem prm_p (S : Nat → StepS) (m : Nat) (hm : m ≤ 9223372036854775807) (hq : ∀ i, i < m → (S i).q ≤ 9223372036854775807) (r : Nat) (b : Nat → Int) (hr : r ≤ 9223372036854775807) : CallsP Tryz.prog 33 [.one (.lst 2 m (stF S)), .one (.lst 1 r (intI b))] (.tup [.one (.g (.int .i64 (pmV S m r b))), .one (.g (.int .i64 (pmE S m r)))]) := by
  have hfk : True := trivial
  have hb1 : True := trivial
  have hb2 : True := trivial
  have hbs : True := trivial
  have mk0 : True := trivial
  have mk1 : True := trivial
  have mk2 : True := trivial
  refine CallsP_of Tryz.func33 rfl (by rw [Tryz.ntmps33]; simp) ?_
  simp only [Tryz.ntmps33, zM, PT.tv, argEnv, Nat.zero_add, Nat.reduceAdd]
  repeat' (first
 | ((with_reducible show callGN _ _ _ _ _ _ _ _ _ _); first
 | ((refine callGN_sq ?_ ?_) <;> (intro hc; (try rw [hc]); (try simp only [zB, zC, reduceCtorEq] at hc); (try (exfalso; contradiction)))))
 | (refine callGK_u0 ?_)
 | ((with_reducible show AW _ _ _ _); first
 | (with_reducible first | refine aS (fun K hK => ?_) | refine aI ?_ | refine aX ?_ | refine aT ?_ | refine aC ?_ | refine aB ?_)
 | (first
 | (with_reducible first | refine aP (ops := #[⟨some 4, _, _, _, _, _⟩, _]) 0 [0,1] ?_ | refine aP (ops := #[⟨some 4, _, _, _, _, _⟩]) 0 [0,1] ?_ | refine aP (ops := #[⟨some 11, _, _, _, _, _⟩, _, _, _, _, _, _, _]) 1 [0,1] ?_ | refine aP (ops := #[⟨some 7, _, _, _, _, _⟩, _, _]) 1 [0,1] ?_ | refine aP (ops := #[⟨some 4, _, _, _, _, _⟩, _]) 2 [] ?_ | refine aP (ops := #[⟨some 10, _, _, _, _, _⟩]) 2 [0,7,8,9] ?_ | refine aP (ops := #[⟨some 19, _, _, _, _, _⟩, _]) 3 [0,1] ?_ | refine aP (ops := #[⟨some 11, _, _, _, _, _⟩, _, _]) 3 [0,7,8,9] ?_ | refine aP (ops := #[⟨some 20, _, _, _, _, _⟩, _, _]) 4 [0,1,6] ?_ | refine aP (ops := #[⟨some 13, _, _, _, _, _⟩, _, _, _]) 4 [0,6,7,8,9] ?_ | refine aP (ops := #[⟨some 23, _, _, _, _, _⟩]) 5 [0,6,20,21,22] ?_ | refine aP (ops := #[⟨some 4, _, _, _, _, _⟩]) 5 [] ?_ | refine aP (ops := #[⟨some 24, _, _, _, _, _⟩, _, _, _, _]) 6 [0,6,20,21,22] ?_ | refine aP (ops := #[⟨some 17, _, _, _, _, _⟩, _]) 6 [0,7,8,9] ?_ | refine aP (ops := #[⟨some 28, _, _, _, _, _⟩, _, _, _, _, _, _, _, _]) 7 [0,6,7,8,20,21,22] ?_ | refine aP (ops := #[⟨some 4, _, _, _, _, _⟩]) 7 [] ?_ | refine aP 8 [0,6,7,8,9,10,20,21,22] ?_ | refine aP 9 [7] ?_ | refine aP 10 [0,6,8,20,21,22] ?_ | refine aP 11 [0,6,20,21,22] ?_ | refine aP 12 [] ?_))
 | ((with_reducible show AW _ (Code.loop _) _ _); first
 | ((with_reducible refine aL (c := (Code.seq (Code.region 5 _ _) _)) (ι := Nat) [0,6,20,21] (fun i => [(22, iA .i64 (i : Int))]) (fun i => [(0, [.mi none i (setO (tkM b i))])]) (fun i => i ≤ r ∧ (∀ i', i' < i → okO S m b i')) (fun i => r - i) 0 ?lg5 ?l15 ?l25 ?li5 ?lr5); (case' lg5 => rintro i _); (case' li5 => try (exact ⟨Nat.zero_le _, fun i hi => absurd hi (Nat.not_lt_zero _)⟩)); (case' lr5 => rintro i ⟨hi, hai⟩ KR hR5; simp only [keepE, hupd, hset, lk, if_true, if_false, xE, reduceIte, zN, stF0, stF1, hfk, hb1, hbs, setO_put, setO_nil, tkM_0, maxLen]))
 | ((with_reducible refine aL (c := (Code.seq (Code.region 2 _ _) _)) (ι := Nat) [0,7,8] (fun j => [(9, iA .i64 (j : Int))]) (fun j => []) (fun j => j ≤ (fnS S m (b i)).q ∧ (∀ j', j' < j → (tkM b i).contains ((fnS S m (b i)).a j') = true)) (fun j => (fnS S m (b i)).q - j) 0 ?lg2 ?l12 ?l22 ?li2 ?lr2); (case' lg2 => rintro j _); (case' li2 => try (exact ⟨Nat.zero_le _, fun i hi => absurd hi (Nat.not_lt_zero _)⟩)); (case' lr2 => rintro j ⟨hj, haj⟩ KR hR2; simp only [keepE, hupd, hset, lk, if_true, if_false, xE, reduceIte, zN, stF0, stF1, hfk, hb1, hbs, setO_put, setO_nil, tkM_0, maxLen]))))
 | ((first | (with_reducible refine And.intro ?_ ?_) | (with_reducible refine Need.mk ?_)); focus (first | exact True.intro | omega | (simp; done)))
 | (with_reducible refine retK_n ?_)
 | ((with_reducible show condN _ _ _ _ _ _); first
 | ((with_reducible refine condN_t ?_ ?_) <;> (intro hc; (try simp only [zB, zC, reduceCtorEq] at hc); ((try (exfalso; omega)); (try (clear mk0; have hvv : vsB S m = true := hc.1; have hr2 : (r : Int) ≤ 200 := hc.2)); (try (clear mk1; have hjr : i < r := (by omega); clear hb1 hb2; have hfq := fnS_q hq (b i); rcases ok_cs S m b i with ⟨hb1, hb2⟩ | ⟨hb1, hb2⟩ | ⟨hb1, hb2⟩; all_goals (clear hbs; first | (have hbs := setO_t hb2) | (have hbs := setO_f hb2) | (have hbs := hb1)))); (try (clear mk2; clear hfk; have hjq : j < (fnS S m (b i)).q := (by omega); cases hcn : (tkM b i).contains ((fnS S m (b i)).a j); all_goals (first | (have hfk := setO_t hcn) | (have hfk := setO_f hcn))))); (try (exfalso; contradiction)))))
 | ((with_reducible show callN _ _ _ _ _ _ _ _ _ _); first
 | (refine callN_q (k := 60) fnok_60 (fval_p S m hm hq) ?_ ?_)
 | (refine callN_q (k := 61) fnok_61 (fnd_p S m hvv hq (b i)) ?_ ?_)
 | ((refine callN_i (k := 62) Tryz.func62 rfl fnok_62 (by rw [Tryz.ntmps62]; simp) ?_ ?_ (fun K hK => ?_)); (focus (exact True.intro)); (focus ((simp [lsF]; done))); simp only [Tryz.ntmps62, List.map_cons, List.map_nil, List.nil_append, List.cons_append, List.append_nil, LV.tv, argEnv, Nat.zero_add, Nat.reduceAdd]))
 | ((with_reducible refine hR5 _ (i + 1) ?_); (try clear hR5 KR))
 | ((with_reducible refine hR2 _ (j + 1) ?_); (try clear hR2 KR))
 | ((with_reducible refine Told.mk ?_); simp only [go_sem, reduceIte, reduceCtorEq, xA, xL, xD, xE, xM, xS, xB, stF0, stF1, intI, hfk, hb1, hbs, setO_put, setO_nil, tkM_0, maxLen] <;> ((((try simp (disch := omega) only [seaWrap, Int.natCast_add, Int.cast_ofNat_Int, and_true, true_and, and_self]); (repeat' (first | omega | (with_reducible refine And.intro ?_ ?_) | (exact all_succ (by assumption) (by assumption)) | ((exact Or.inr ⟨setO_len hb2, fun k => by rw [tkM_s]; exact oeqv_rf2 _⟩)) | ((exact all_succ hai ⟨hb1, hb2, all_t (by assumption) (by assumption)⟩)))); done))))
 | ((fail_if_success (with_reducible show AW _ _ _ _)); simp (maxSteps := 2000000) only [go_sem, reduceIte, reduceCtorEq, xA, xL, xD, xE, xM, xS, xB, Tryz.f33, Tryz.f62, stF0, stF1, intI, hfk, hb1, hbs, setO_put, setO_nil, tkM_0, maxLen])
 | ((with_reducible refine hK _ ?_); clear hK K)
 | (with_reducible apply_assumption -exfalso only [*]))
  all_goals first
    | exact pm_e (hc.imp id (fun h => by omega))
    | exact pm_f hvv (by omega) (by omega) (fun g => Bool.noConfusion (g.1.symm.trans hb1 : true = false)) hai
    | exact pm_f hvv (by omega) (by omega) (fun g => Bool.noConfusion (hb2.symm.trans g.2.1 : true = false)) hai
    | exact pm_f hvv (by omega) (by omega) (fun g => Bool.noConfusion (g.2.2.symm.trans (all_f (j := j) (by omega) hcn) : true = false)) hai
    | exact pm_t hvv (by omega) (by omega) hai
    | skip
end Go.Proofs.YtmnejmpjmniiiaaGreatDoor
namespace Go.Proofs.YtmnejmpjmniiiaaGreatDoor
open Go.RowKit Go.Sea
theorem nod_sub : ∀ {l m : List Nat}, l.Nodup → (∀ x, x ∈ l → x ∈ m) → l.length ≤ m.length
  | [], _, _, _ => Nat.zero_le _
  | a :: l, m, hn, h => by
    have ha : a ∈ m := h a (List.mem_cons_self ..)
    have hp := (List.perm_cons_erase ha).length_eq
    have hn2 := List.nodup_cons.1 hn
    have := nod_sub (l := l) (m := m.erase a) hn2.2 fun x hx => by
      have hne : x ≠ a := fun e => hn2.1 (e ▸ hx)
      exact (List.mem_erase_of_ne hne).2 (h x (List.mem_cons_of_mem _ hx))
    simp only [List.length_cons] at hp ⊢
    omega
theorem nod_all {l m : List Nat} (hn : l.Nodup) (h : ∀ x, x ∈ l → x ∈ m) (hl : m.length ≤ l.length) : ∀ x, x ∈ m → x ∈ l := fun x hx => Classical.byContradiction fun g => by
  have := nod_sub (l := x :: l) (m := m) (List.nodup_cons.2 ⟨g, hn⟩) fun y hy => by
    rcases List.mem_cons.1 hy with rfl | hy
    · exact hx
    · exact h y hy
  simp only [List.length_cons] at this; omega
def lI (c : Nat → Nat) (i : Nat) : List Nat := (List.range i).map c
theorem lI_s (c : Nat → Nat) (i : Nat) : lI c (i + 1) = lI c i ++ [c i] := by unfold lI; rw [List.range_succ, List.map_append]; rfl
theorem lI_mem {c : Nat → Nat} {i t : Nat} : t ∈ lI c i ↔ ∃ j, j < i ∧ c j = t := by unfold lI; simp
theorem lI_nod {c : Nat → Nat} {i : Nat} (h : ∀ j k, j < k → k < i → c j ≠ c k) : (lI c i).Nodup := by
  unfold lI List.Nodup
  rw [List.pairwise_map]
  exact List.Pairwise.imp_of_mem (fun ha hb hab => h _ _ hab (List.mem_range.1 hb)) List.pairwise_lt_range
structure Ord (x : CaS) (s : Nat) (c : Nat → Nat) (i : Nat) : Prop where
  n : ∀ j k, j < k → k < i → c j ≠ c k
  s : ∀ j, j < i → s.testBit (c j) = true
  p : ∀ j, j < i → ∀ t, (opP x (c j)).testBit t = true → ∃ k, k < j ∧ c k = t
theorem any_run {x : CaS} (he : cvE x = 0) {s : Nat} (hs : inS x.m s) (hst : StandN x s) {c : Nat → Nat} {i : Nat} (h : Ord x s c i) : (runP ((lI c i).map (stM x)) (M0 x)).isSome = true ∧ ((∀ t, s.testBit t = true → ∃ j, j < i ∧ c j = t) → runP ((lI c i).map (stM x)) (M0 x) = runP ((bl s).map (stM x)) (M0 x)) := by
  obtain ⟨hv, _, _, _, hm, _⟩ := cv_ok he
  have hcm : ∀ j, j < i → c j < x.m := fun j hj => inS_bit hs (h.s j hj)
  have htb : ∀ t, (mskT (fun t => decide (t ∈ lI c i)) x.m).testBit t = true ↔ t ∈ lI c i := fun t => by
    rw [mskT_bit, decide_eq_true_eq]
    refine ⟨fun g => g.2, fun g => ⟨?_, g⟩⟩
    obtain ⟨j, hj, rfl⟩ := lI_mem.1 g
    exact hcm j hj
  have hin : inS x.m (mskT (fun t => decide (t ∈ lI c i)) x.m) := mskT_in _
  generalize mskT (fun t => decide (t ∈ lI c i)) x.m = t at htb hin
  have hcl : ClosN x t := fun a ha k hk => by
    obtain ⟨j, hj, rfl⟩ := lI_mem.1 ((htb a).1 ha)
    obtain ⟨u, hu, e⟩ := h.p j hj k hk
    exact (htb k).2 (lI_mem.2 ⟨u, by omega, e⟩)
  have hts := stand_part he hs hin hst hcl fun a ha => by
    obtain ⟨j, hj, rfl⟩ := lI_mem.1 ((htb a).1 ha)
    exact h.s j hj
  have hn := lI_nod h.n
  have hp : (lI c i).Perm (bl t) := (List.perm_ext_iff_of_nodup hn (bl_nod t)).2 fun a => by
    rw [mem_bl (inS_lt hm hin), htb]
  have key : runP ((lI c i).map (stM x)) (M0 x) = runP ((bl t).map (stM x)) (M0 x) := by
    refine run_perm (stM x) (bl t) hn hp ?_ (M0 x)
    unfold lI
    rw [List.pairwise_map]
    refine List.Pairwise.imp_of_mem (fun {j k} _ hb hjk => ?_) List.pairwise_lt_range
    rintro ⟨u, v, w, e⟩
    have hk : k < i := List.mem_range.1 hb
    have hlt : c k < c j := by
      have h1 := bl_lt t
      rw [e] at h1
      exact (List.pairwise_append.1 h1).2.2 _ (List.mem_append_right _ (List.mem_cons_self ..)) _ (List.mem_cons_self ..)
    refine (free_lt hlt (hcm j (by omega)) ?_ (hst.2.1 _ _ (h.s k hk) (h.s j (by omega)))).symm
    cases g : (opP x (c j)).testBit (c k) with
    | false => rfl
    | true =>
      obtain ⟨u, hu, e⟩ := h.p j (by omega) _ g
      exact absurd e (h.n u k (by omega) hk)
  refine ⟨by rw [key]; exact hts.2.2, fun hall => ?_⟩
  have e : t = s := by
    apply Nat.eq_of_testBit_eq
    intro a
    rw [Bool.eq_iff_iff, htb, lI_mem]
    constructor
    · rintro ⟨j, hj, rfl⟩; exact h.s j hj
    · exact hall a
  rw [key, e]
theorem LF_inj {n m : Nat} {f g : Nat → Feat} (h : LF f n = LF g m) : n = m ∧ ∀ i, i < n → f i = g i := by
  have e : n = m := by have := congrArg List.length h; simpa [LF] using this
  subst e
  refine ⟨rfl, fun i hi => ?_⟩
  have := congrArg (fun l : List Feat => l[i]?) h
  simp only [LF, List.getElem?_map, List.getElem?_range hi, Option.map_some, Option.some.injEq] at this
  exact this
theorem fea_asc {X : FlS} (h : feaB X.n X.f = true) : asc (LF X.f X.n) := (good_LF h).a
theorem any_list {x : CaS} (he : cvE x = 0) {s : Nat} (hs : inS x.m s) (hst : StandN x s) {c : Nat → Nat} {i : Nat} (h : Ord x s c i) : runB x.O (fl0 x) (lI c i) = true ∧ ((∀ t, s.testBit t = true → ∃ j, j < i ∧ c j = t) → (runF x.O (fl0 x) (lI c i)).n = (runF x.O (fl0 x) (bl s)).n ∧ ∀ k, k < (runF x.O (fl0 x) (lI c i)).n → (runF x.O (fl0 x) (lI c i)).f k = (runF x.O (fl0 x) (bl s)).f k) := by
  obtain ⟨hv, hf, hmo, hop, hm, hsum⟩ := cv_ok he
  obtain ⟨h1, h2⟩ := any_run he hs hst h
  have hr : ∀ l : List Nat, l.Nodup → (∀ i, i ∈ l → i < x.m) → _ := fun l hn hl => run_M (O := x.O) l (fl0 x) hf (fun i hi => hop i (by have := hl i hi; omega)) (by
    have := sumK_le (O := x.O) x.m l hn hl
    rw [← hmo] at this
    show x.n + _ ≤ 300; omega)
  have ha := hr (lI c i) (lI_nod h.n) fun t ht => by
    obtain ⟨j, hj, rfl⟩ := lI_mem.1 ht
    exact inS_bit hs (h.s j hj)
  have hb := hr (bl s) (bl_nod s) fun t ht => inS_mem hs ht
  have eB : runB x.O (fl0 x) (lI c i) = true := by
    cases g : runB x.O (fl0 x) (lI c i) with
    | true => rfl
    | false =>
      have := ha.2 g
      rw [show runP ((lI c i).map (stM x)) (M0 x) = none from this] at h1; cases h1
  refine ⟨eB, fun hall => ?_⟩
  have h3 := h2 hall
  have eS : runB x.O (fl0 x) (bl s) = true := by
    cases g : runB x.O (fl0 x) (bl s) with
    | true => rfl
    | false =>
      have := hb.2 g
      rw [h3, show runP ((bl s).map (stM x)) (M0 x) = none from this] at h1; cases h1
  have g1 := ha.1 eB
  have g2 := hb.1 eS
  have g3 : runP ((lI c i).map (stM x)) (M0 x) = _ := g1.1
  have g4 : runP ((bl s).map (stM x)) (M0 x) = _ := g2.1
  rw [h3, g4] at g3
  exact LF_inj (asc_ext (fea_asc g2.2) (fea_asc g1.2) (Option.some.inj g3)).symm
theorem ord_of {x : CaS} {q : Nat} {a : Nat → Int} (h : askE x q a = 0) {r : Nat} {b : Nat → Int} (hp : ∀ k, k < r → okO x.S x.m b k) {i : Nat} (hi : i ≤ r) (hh : ∀ k, k < i → hasL q a (b k) = true) : Ord x (askS x q a) (fun k => ixM x.S x.m (b k)) i := by
  obtain ⟨he, hs, hin, hB⟩ := ask_ok h
  obtain ⟨hv, _, _, _, hm, _⟩ := cv_ok he
  have hix : ∀ k, k < r → ixM x.S x.m (b k) < x.m ∧ (x.S (ixM x.S x.m (b k))).nu = b k := fun k hk => by
    have := of_decide_eq_true (hp k hk).1
    exact ⟨this, ix_get this⟩
  refine ⟨fun j k hjk hk e => ?_, fun j hj => ?_, ?_⟩
  · have h1 := (hix j (by omega)).2
    have h2 := (hix k (by omega)).2
    rw [show ixM x.S x.m (b j) = ixM x.S x.m (b k) from e, h2] at h1
    have h3 := (hp k (by omega)).2.1
    rw [tkM_mem.2 ⟨j, hjk, h1.symm⟩] at h3; cases h3
  · obtain ⟨u, h1, h2⟩ := zR_mem.1 (zR_has.2 (hh j hj))
    exact (rdN_bit q).2 ⟨u, h1, by rw [h2]⟩
  · have key : ∀ n j, j < n → j < i → ∀ t, (opP x (ixM x.S x.m (b j))).testBit t = true → ∃ k, k < j ∧ ixM x.S x.m (b k) = t := by
      intro n
      induction n with
      | zero => intro j hj; omega
      | succ n ih =>
        intro j hjn hj t ht
        have hj2 := hix j (by omega)
        obtain ⟨u, hu, g⟩ := (pst_bit hv hj2.1).1 ht
        have h3 := (hp j (by omega)).2.2
        have e : fnS x.S x.m (b j) = x.S (ixM x.S x.m (b j)) := by unfold fnS; rw [if_pos (hp j (by omega)).1]
        rw [e] at h3
        obtain ⟨k, hk, e2⟩ := tkM_mem.1 (of_decide_eq_true h3 u hu)
        rw [← e2] at g
        rcases g with rfl | g
        · exact ⟨k, hk, rfl⟩
        · obtain ⟨k2, h4, h5⟩ := ih k (by omega) (by omega) t g
          exact ⟨k2, by omega, h5⟩
    intro j hj t ht
    exact key (j + 1) j (Nat.lt_succ_self j) hj t ht
theorem ord_all {x : CaS} {q : Nat} {a : Nat → Int} (h : askE x q a = 0) {c : Nat → Nat} (ho : Ord x (askS x q a) c q) : ∀ t, (askS x q a).testBit t = true → ∃ j, j < q ∧ c j = t := by
  obtain ⟨he, hs, hin, hB⟩ := ask_ok h
  intro t ht
  have hsub : ∀ y, y ∈ lI c q → y ∈ lI (fun k => ixM x.S x.m (a k)) q := fun y hy => by
    obtain ⟨j, hj, rfl⟩ := lI_mem.1 hy
    exact lI_mem.2 ((rdN_bit q).1 (ho.s j hj))
  have hl : (lI (fun k => ixM x.S x.m (a k)) q).length ≤ (lI c q).length := by unfold lI; simp
  exact lI_mem.1 (nod_all (lI_nod ho.n) hsub hl t (lI_mem.2 ((rdN_bit q).1 ht)))
theorem eqLB_rr (w n : Nat) (P : Nat → Nat → Int) : eqLB w n n P P = true := decide_eq_true ⟨rfl, fun _ _ _ _ => rfl⟩
theorem feqB_rr (f : Feat) : feqB f f = true := by unfold feqB; rw [eqLB_rr, eqLB_rr, decide_eq_true (by simp)]; rfl
theorem any_same {x : CaS} {q : Nat} {a : Nat → Int} (h : askE x q a = 0) (hb : askB x q a = true) {c : Nat → Nat} (ho : Ord x (askS x q a) c q) : eqFI (runF x.O (fl0 x) (lI c q)).n (askN x q a) (runF x.O (fl0 x) (lI c q)).f (askF x q a) = true := by
  obtain ⟨he, hs, hin, hB⟩ := ask_ok h
  rw [hB] at hb
  obtain ⟨h1, h2⟩ := (any_list he hin ((beh_iff he hin).1 hb) ho).2 (ord_all h ho)
  have e : askN x q a = (runF x.O (fl0 x) (bl (askS x q a))).n := by
    unfold askN behN; rw [if_pos h, if_pos hb]; rfl
  refine decide_eq_true ⟨h1.trans e.symm, fun i hi => ?_⟩
  rw [h2 i hi]; exact feqB_rr _
theorem any_step {x : CaS} {q : Nat} {a : Nat → Int} (h : askE x q a = 0) (hb : askB x q a = true) {c : Nat → Nat} {i : Nat} (ho : Ord x (askS x q a) c (i + 1)) : apX (runF x.O (fl0 x) (lI c i)) (x.O (c i)) = 0 ∧ runB x.O (fl0 x) (lI c i) = true := by
  obtain ⟨he, hs, hin, hB⟩ := ask_ok h
  rw [hB] at hb
  have hst := (beh_iff he hin).1 hb
  have h1 := (any_list he hin hst ho).1
  have h2 := (any_list he hin hst (i := i) ⟨fun j k g1 g2 => ho.n j k g1 (by omega), fun j g => ho.s j (by omega), fun j g => ho.p j (by omega)⟩).1
  refine ⟨?_, h2⟩
  have key : ∀ (l : List Nat) (X : FlS) (k : Nat), runB x.O X (l ++ [k]) = true → apX (runF x.O X l) (x.O k) = 0 := by
    intro l
    induction l with
    | nil => intro X k g; exact of_decide_eq_true (Bool.and_eq_true _ _ ▸ g : _ ∧ _).1
    | cons u l ih =>
      intro X k g
      have g : (decide (apX X (x.O u) = 0) && runB x.O (apS X (x.O u)) (l ++ [k])) = true := g
      rw [Bool.and_eq_true] at g
      exact ih _ k g.2
  rw [lI_s] at h1
  exact key _ _ _ h1
end Go.Proofs.YtmnejmpjmniiiaaGreatDoor
namespace Go.Proofs.YtmnejmpjmniiiaaGreatDoor
open Go.RowKit Go.Sea
open Nat renaming reduceAdd → xA, reduceLT → xL, reduceLeDiff → xD, reduceEqDiff → xE, reduceMul → xM, reduceSub → xS, reduceBEq → xB
theorem fnok_32 : fnOk Tryz.prog 32 = true := by kernel_rfl
theorem fnok_33 : fnOk Tryz.prog 33 = true := by kernel_rfl
attribute [go_sem] fnok_32 fnok_33
theorem re_0 {x : CaS} {q : Nat} {a : Nat → Int} (h : reE x q a ≠ 0) : reN x q a = 0 := by
  by_cases h1 : askE x q a = 0
  · cases h2 : askB x q a with
    | true => exact absurd (re_3 h1 h2).1 h
    | false => exact (re_2 h1 h2).2
  · exact (re_1 h1).2
theorem re_ok {x : CaS} {q : Nat} {a : Nat → Int} (h : reE x q a = 0) : askE x q a = 0 ∧ askB x q a = true ∧ reN x q a = askN x q a := by
  by_cases h1 : askE x q a = 0
  · cases h2 : askB x q a with
    | true => exact ⟨h1, rfl, (re_3 h1 h2).2⟩
    | false => have := (re_2 h1 h2).1; omega
  · have := (re_1 h1).1; omega
theorem apS_sn (x : CaS) (c : Nat → Nat) (i : Nat) : apS (runF x.O (fl0 x) (lI c i)) (x.O (c i)) = runF x.O (fl0 x) (lI c (i + 1)) := by rw [lI_s, runF_s]
theorem any_okk {x : CaS} (hx : x.Ok) {q : Nat} {a : Nat → Int} (h : askE x q a = 0) (hb : askB x q a = true) {c : Nat → Nat} {i : Nat} (ho : Ord x (askS x q a) c i) : (runF x.O (fl0 x) (lI c i)).Ok := by
  obtain ⟨he, hs, hin, hB⟩ := ask_ok h
  rw [hB] at hb
  exact runF_ok ⟨(of_decide_eq_true (cv_ok he).2.1).1, hx.f⟩ (any_list he hin ((beh_iff he hin).1 hb) ho).1
theorem askF_ok {x : CaS} (hx : x.Ok) {q : Nat} {a : Nat → Int} (h : askE x q a = 0) (hb : askB x q a = true) : askN x q a ≤ 300 ∧ ∀ i, i < askN x q a → (askF x q a i).Ok := by
  obtain ⟨he, hs, hin, hB⟩ := ask_ok h
  rw [hB] at hb
  have e : askN x q a = (runF x.O (fl0 x) (bl (askS x q a))).n := by
    unfold askN behN; rw [if_pos h, if_pos hb]; rfl
  have hr : runB x.O (fl0 x) (bl (askS x q a)) = true := by
    unfold behB at hb; rw [Bool.and_eq_true] at hb; exact hb.2
  have := runF_ok (X := fl0 x) ⟨(of_decide_eq_true (cv_ok he).2.1).1, hx.f⟩ hr
  rw [e]; exact ⟨this.n, this.f⟩
theorem ixV_c {x : CaS} {b : Nat → Int} {i : Nat} (h : 0 ≤ ixV x.S x.m (b i)) : ixV x.S x.m (b i) = ((ixM x.S x.m (b i) : Nat) : Int) ∧ ixM x.S x.m (b i) < x.m := by
  unfold ixV at h ⊢
  split at h
  · rename_i g; rw [if_pos g]; exact ⟨rfl, g⟩
  · omega
def cI (x : CaS) (b : Nat → Int) (k : Nat) : Nat := ixM x.S x.m (b k)
set_option maxRecDepth 100000 in
set_option maxHeartbeats 4000000 in
theorem an_law (x : CaS) (hx : x.Ok) (q : Nat) (a : Nat → Int) (hqq : q ≤ 9223372036854775807) (r : Nat) (b : Nat → Int) (hr : r ≤ 9223372036854775807) : CallsP Tryz.prog 10 [.agg [.lst 9 x.n (featF x.f), .lst 2 x.m (stF x.S), .lst 1 x.mo (ptF x.O)], .one (.lst 1 q (intI a)), .one (.lst 1 r (intI b))] (.t (.one (.g (.bool (true))))) := by
  have hix : True := trivial
  have hx0 : True := trivial
  have hsm : True := trivial
  have hxm := hx.m
  have mk0 : True := trivial
  have mk1 : True := trivial
  have mk2 : True := trivial
  refine CallsP_of Tryz.func10 rfl (by rw [Tryz.ntmps10]; simp) ?_
  simp only [Tryz.ntmps10, zM, PT.tv, argEnv, Nat.zero_add, Nat.reduceAdd]
  repeat' (first
 | ((with_reducible show AW _ _ _ _); first
 | (with_reducible first | refine aS (fun K hK => ?_) | refine aI ?_ | refine aX ?_ | refine aT ?_ | refine aC ?_ | refine aB ?_)
 | (first
 | (with_reducible first | refine aP 0 [0,1,2] ?_ | refine aP 1 [1,2,3] ?_ | refine aP 2 [1,2,3,7] ?_ | refine aP 3 [7] ?_ | refine aP 4 [1,2,3,7] ?_ | refine aP 5 [1,2,3,7,8,9] ?_ | refine aP 6 [1,2,3,7,8,9,10,11] ?_ | refine aP 7 [7,8,9] ?_ | refine aP 8 [1,2,3,7,8] ?_ | refine aP 9 [1,2,3,7,8,12] ?_ | refine aP 10 [1,2,3,7,8,12,13] ?_ | refine aP 11 [1,2,3,7,8,12,13] ?_)
 | ((with_reducible refine aR (c := Code.region 12 _ true) [1,2,3,7,8,12,13] ?_); (with_reducible refine aD ?_ ?_ ?_ ?_); (focus kernel_rfl); (focus kernel_rfl); (focus kernel_rfl))
 | (with_reducible first | refine aP 13 [1,2,3,7,8,12,13,14] ?_ | refine aP 14 [7] ?_ | refine aP 15 [1,2,3,7,8,12,13,14] ?_ | refine aP 16 [1,2,3,7,8,13,15,17] ?_ | refine aP 18 [1,2,3,7,8,13,15] ?_ | refine aP 19 [7,8,12] ?_))
 | ((with_reducible show AW _ (Code.loop _) _ _); first
 | ((with_reducible refine aL (c := (Code.seq (Code.seq (Code.region 10 _ _) _) _)) (ι := Nat) [1,2,3,7,8] (fun i => [(12, .t (.one (.iv (.lst 9 (runF x.O (fl0 x) (lI (cI x b) i)).n (featF (runF x.O (fl0 x) (lI (cI x b) i)).f))))), (13, iA .i64 (i : Int))]) (fun i => []) (fun i => i ≤ r ∧ (∀ k, k < i → hasL q a (b k) = true)) (fun i => r - i) 0 ?lg10 ?l110 ?l210 ?li10 ?lr10); (case' lg10 => rintro i _); (case' li10 => try (exact ⟨Nat.zero_le _, fun i hi => absurd hi (Nat.not_lt_zero _)⟩)); (case' lr10 => rintro i ⟨hi, hai⟩ KR hR10; simp only [keepE, hupd, hset, lk, if_true, if_false, xE, reduceIte, zN, stF0, stF1, ptF0, hix, hx0, hsm]))))
 | ((first | (with_reducible refine And.intro ?_ ?_) | (with_reducible refine Need.mk ?_)); focus (first | exact True.intro | omega | (intro _; exact True.intro) | (simp; done)))
 | (with_reducible refine retK_n ?_)
 | ((with_reducible show condN _ _ _ _ _ _); first
 | ((with_reducible refine condN_t ?_ ?_) <;> (intro hc; (try simp only [zB, zC, reduceCtorEq] at hc); ((try (exfalso; omega)); (try (clear mk0; have hE := re_ok hc.1.1; have hpm := pm_ok hc.1.2 hc.2; have erN := hE.2.2)); (try (clear mk1 hix hx0; have hhb := hc.1.1; have hb0 : 0 ≤ ixV x.S x.m (b i) := hc.1.2; have hix : ixV x.S x.m (b i) = ((cI x b i : Nat) : Int) := (ixV_c hb0).1; have hik : cI x b i < x.m := (ixV_c hb0).2; have hik2 : cI x b i < x.mo := (by have := hc.2; omega); have hO := ord_of hE.1 hpm (i := i + 1) (by omega) (all_succ hai hc.1.1); have hst := any_step hE.1 hE.2.1 (c := cI x b) hO; have hx0 : apE (runF x.O (fl0 x) (lI (cI x b) i)).n (runF x.O (fl0 x) (lI (cI x b) i)).f (x.O (cI x b i)).k (x.O (cI x b i)).o = 0 := hst.1; have hRk : (runF x.O (fl0 x) (lI (cI x b) i)).Ok := any_okk hx hE.1 hE.2.1 (ord_of hE.1 hpm (i := i) (by omega) hai); have hRn := hRk.n)); (try (clear mk2 hsm; have ei : q = i := (by omega); have er : q = r := (by omega); subst er; subst ei; have hO := ord_of hE.1 hpm (i := q) (by omega) hai; have hRk : (runF x.O (fl0 x) (lI (cI x b) q)).Ok := any_okk hx hE.1 hE.2.1 hO; have hRn := hRk.n; have hAk := askF_ok hx hE.1 hE.2.1; rw [← erN] at hAk; have hAn := hAk.1; have hsm : eqFI (runF x.O (fl0 x) (lI (cI x b) q)).n (reN x q a) (runF x.O (fl0 x) (lI (cI x b) q)).f (askF x q a) = true := (by rw [erN]; exact any_same hE.1 hE.2.1 hO)))); (try (exfalso; contradiction)))))
 | ((with_reducible refine And.intro ?_ ?_); focus ((with_reducible show chkR _ _ _ = true); kernel_rfl))
 | ((with_reducible show callN _ _ _ _ _ _ _ _ _ _); first
 | (refine callN_q (k := 11) fnok_11 (head_p) ?_ ?_)
 | (refine callN_q (k := 17) fnok_17 (res_p x hx q a hqq) ?_ ?_)
 | (refine callN_q (k := 33) fnok_33 (prm_p x.S x.m hx.m hx.q r b hr) ?_ ?_)
 | (refine callN_q (k := 28) fnok_28 (rhas_p q a (b i) hqq) ?_ ?_)
 | (refine callN_q (k := 34) fnok_34 (Apply_p (runF x.O (fl0 x) (lI (cI x b) i)).n (runF x.O (fl0 x) (lI (cI x b) i)).f (x.O (cI x b i)).k (x.O (cI x b i)).o (by omega) hRk.f (hx.k _ (by omega)) (hx.o _ (by omega))) ?_ ?_))
 | ((with_reducible show callDN _ _ _ _ _ _ _ _ _ _ _ _ _); first
 | (refine callDN_q (k := 32) fnok_32 (rix_p x.S x.m hx.m hx.q (b i)) ?_ ?_))
 | ((with_reducible show callGN _ _ _ _ _ _ _ _ _ _); first
 | (refine callGN_q (k := 19) fnok_19 (fun hg => samel_p (runF x.O (fl0 x) (lI (cI x b) q)).n (reN x q a) (runF x.O (fl0 x) (lI (cI x b) q)).f (askF x q a) (by omega) (by omega) hRk.f hAk.2) ?_ ?_))
 | ((with_reducible refine hR10 _ (i + 1) ?_); (try clear hR10 KR))
 | ((with_reducible refine Told.mk ?_); simp only [go_sem, reduceIte, reduceCtorEq, xA, xL, xD, xE, xM, xS, xB, stF0, stF1, ptF0, intI, hix, hx0, hsm] <;> ((((try simp (disch := omega) only [seaWrap, Int.natCast_add, Int.cast_ofNat_Int, and_true, true_and, and_self]); (repeat' (first | omega | (with_reducible refine And.intro ?_ ?_) | (exact all_succ (by assumption) (by assumption)) | ((exact Or.inl rfl)) | ((exact Or.inl (by rw [← apS_sn]; rfl))))); done))))
 | ((fail_if_success (with_reducible show AW _ _ _ _)); simp (maxSteps := 2000000) only [go_sem, reduceIte, reduceCtorEq, xA, xL, xD, xE, xM, xS, xB, Tryz.f10, stF0, stF1, ptF0, intI, hix, hx0, hsm])
 | ((with_reducible refine hK _ ?_); clear hK K)
 | (with_reducible apply_assumption -exfalso only [*]))
  all_goals ((rcases hc with (h | h) | h <;> first | (have e := re_0 h; simp [e]; done) | (simp; by_cases g : reE x q a = 0 <;> first | exact Or.inl g | exact Or.inr (re_0 g))))
end Go.Proofs.YtmnejmpjmniiiaaGreatDoor
namespace Go.Proofs.YtmnejmpjmniiiaaGreatDoor
open Go.RowKit Go.Sea
open Nat renaming reduceAdd → xA, reduceLT → xL, reduceLeDiff → xD, reduceEqDiff → xE, reduceMul → xM, reduceSub → xS, reduceBEq → xB
def fur (x : CaS) (u : StepS) (p : PtS) : CaS := ⟨x.n, x.f, x.m + 1, fun i => if i < x.m then x.S i else u, x.mo + 1, fun i => if i < x.mo then x.O i else p⟩
def rwS (x : CaS) (u : StepS) : List CV := lstC (stF x.S) 2 x.m 0 ++ [.iv (.g (.int .i64 u.nu)), .iv (.lst 1 u.q (intI u.a))]
def rwO (x : CaS) (p : PtS) : List CV := lstC (ptF x.O) 1 x.mo 0 ++ [.iv (.lst 16 p.k (oprF p.o))]
theorem lstC_pur (F : Nat → Nat → IV) (E n k : Nat) : List.map (CV.purge k) (lstC F E n 0) = lstC F E n 0 := purge_iv k (lstC_ivf F E n 0)
theorem rwS_iv (x : CaS) (u : StepS) : ∀ c, c ∈ rwS x u → isIv c := fun c hc => by
  rcases List.mem_append.1 hc with h | h
  · exact lstC_ivf _ _ _ _ c h
  · simp at h; rcases h with rfl | rfl <;> trivial
theorem rwO_iv (x : CaS) (p : PtS) : ∀ c, c ∈ rwO x p → isIv c := fun c hc => by
  rcases List.mem_append.1 hc with h | h
  · exact lstC_ivf _ _ _ _ c h
  · simp at h; subst h; trivial
theorem rwS_pur (x : CaS) (u : StepS) (k : Nat) : List.map (CV.purge k) (rwS x u) = rwS x u := purge_iv k (rwS_iv x u)
theorem rwO_pur (x : CaS) (p : PtS) (k : Nat) : List.map (CV.purge k) (rwO x p) = rwO x p := purge_iv k (rwO_iv x p)
theorem rwS_frz (x : CaS) (u : StepS) (i : Nat) (cs : List CV) : List.map (frzC i cs) (rwS x u) = rwS x u := frz_ivf _ (rwS_iv x u)
theorem rwO_frz (x : CaS) (p : PtS) (i : Nat) (cs : List CV) : List.map (frzC i cs) (rwO x p) = rwO x p := frz_ivf _ (rwO_iv x p)
theorem rwS_app (x : CaS) (u : StepS) : lstC (stF x.S) 2 x.m 0 ++ [.iv (.g (.int .i64 u.nu)), .iv (.lst 1 u.q (intI u.a))] = rwS x u := rfl
theorem rwO_app (x : CaS) (p : PtS) : lstC (ptF x.O) 1 x.mo 0 ++ [.iv (.lst 16 p.k (oprF p.o))] = rwO x p := rfl
theorem rwS_len (x : CaS) (u : StepS) : (rwS x u).length = (x.m + 1) * 2 := by unfold rwS; rw [List.length_append, lstC_len]; simp; omega
theorem rwO_len (x : CaS) (p : PtS) : (rwO x p).length = x.mo + 1 := by unfold rwO; rw [List.length_append, lstC_len]; simp
theorem fur_S {x : CaS} {u : StepS} {p : PtS} {i : Nat} (h : i < x.m) : (fur x u p).S i = x.S i := if_pos h
theorem fur_Sm (x : CaS) (u : StepS) (p : PtS) : (fur x u p).S x.m = u := if_neg (Nat.lt_irrefl _)
theorem fur_O {x : CaS} {u : StepS} {p : PtS} {i : Nat} (h : i < x.mo) : (fur x u p).O i = x.O i := if_pos h
theorem fur_Om (x : CaS) (u : StepS) (p : PtS) : (fur x u p).O x.mo = p := if_neg (Nat.lt_irrefl _)
theorem fur_ok {x : CaS} (hx : x.Ok) {u : StepS} (hu : u.q ≤ 9223372036854775807) {p : PtS} (hp : p.k ≤ 9223372036854775807) (hpo : ∀ i, i < p.k → (p.o i).f.Ok) (hm : x.m ≤ 1000000) (hmo : x.mo ≤ 1000000) : (fur x u p).Ok := by
  refine ⟨hx.n, hx.f, ?_, fun i hi => ?_, ?_, fun i hi => ?_, fun i hi => ?_⟩
  · show x.m + 1 ≤ _; omega
  · show ((if i < x.m then x.S i else u) : StepS).q ≤ _
    split
    · rename_i h; exact hx.q i h
    · exact hu
  · show x.mo + 1 ≤ _; omega
  · show ((if i < x.mo then x.O i else p) : PtS).k ≤ _
    split
    · rename_i h; exact hx.k i h
    · exact hp
  · show ∀ j, j < ((if i < x.mo then x.O i else p) : PtS).k → (((if i < x.mo then x.O i else p) : PtS).o j).f.Ok
    split
    · rename_i h; exact hx.o i h
    · exact hpo
theorem smK_cg {O P : Nat → PtS} : ∀ m, (∀ i, i < m → O i = P i) → smK O m = smK P m
  | 0, _ => rfl
  | m + 1, h => by
    show smK O m + (O m).k = smK P m + (P m).k
    rw [smK_cg m fun i hi => h i (by omega), h m (Nat.lt_succ_self m)]
theorem stO_cg {S T : Nat → StepS} {i : Nat} (h : ∀ j, j ≤ i → S j = T j) (g : stO S i) : stO T i := by
  have e1 : nuM T i = nuM S i := by
    unfold nuM
    apply List.map_congr_left
    intro j hj
    rw [h j (by have := List.mem_range.1 hj; omega)]
  have e2 : lsN T i = lsN S i := by
    unfold lsN; split
    · rfl
    · rw [h (i - 1) (by omega)]
  unfold stO at *
  rw [e1, e2, ← h i (Nat.le_refl i)]; exact g
structure FurD (x : CaS) (u : StepS) (p : PtS) : Prop where
  y : cvE (fur x u p) = 0
  x : cvE x = 0
theorem fur_cv {x : CaS} {u : StepS} {p : PtS} (hmo : x.mo = x.m) (h : cvE (fur x u p) = 0) : FurD x u p := by
  obtain ⟨hv, hf, hmo2, hop, hm, hs⟩ := cv_ok h
  have hm : x.m + 1 ≤ 10 := hm
  have h1 : vsB x.S x.m = true := by
    refine decide_eq_true ⟨by omega, fun i hi => ?_⟩
    exact stO_cg (fun j hj => fur_S (by omega)) ((of_decide_eq_true hv).2 i (by show i < x.m + 1; omega))
  have h2 : ∀ i, i < x.mo → opsB (x.O i).k (x.O i).o = true := fun i hi => by
    have := hop i (by show i < x.mo + 1; omega)
    rwa [fur_O hi] at this
  have h3 : x.n + smK x.O x.mo ≤ 300 := by
    have e : smK (fur x u p).O (x.mo + 1) = smK (fur x u p).O x.mo + ((fur x u p).O x.mo).k := rfl
    have e2 : smK (fur x u p).O x.mo = smK x.O x.mo := smK_cg x.mo fun i hi => fur_O hi
    have hs : x.n + smK (fur x u p).O (x.mo + 1) ≤ 300 := hs
    omega
  refine ⟨h, ?_⟩
  have n0 : ¬ badO x := by
    rintro (g | g | g | ⟨i, hi, g⟩)
    · exact absurd (g.symm.trans h1) (by decide)
    · exact absurd (g.symm.trans hf) (by decide)
    · exact g hmo
    · exact absurd (g.symm.trans (h2 i hi)) (by decide)
  unfold cvE
  rw [if_neg n0, if_neg (by omega)]
section
variable {x : CaS} {u : StepS} {p : PtS} (hmo : x.mo = x.m) (D : FurD x u p)
include D
theorem fur_ix {y : Int} (h : ixM x.S x.m y < x.m) : ixM (fur x u p).S (x.m + 1) y = ixM x.S x.m y := by
  have h2 := ix_get h
  have := ix_nu (m := x.m + 1) (cv_ok D.y).1 (t := ixM x.S x.m y) (by omega)
  rw [fur_S h, h2] at this
  exact this
theorem fur_P : ∀ n i, i < n → i < x.m → opP (fur x u p) i = opP x i
  | 0, i, h, _ => absurd h (Nat.not_lt_zero i)
  | n + 1, i, hn, hi => by
    have hvx := (cv_ok D.x).1
    have hvy : vsB (fur x u p).S (x.m + 1) = true := (cv_ok D.y).1
    apply Nat.eq_of_testBit_eq
    intro t
    rw [Bool.eq_iff_iff]
    unfold opP
    rw [show (fur x u p).m = x.m + 1 from rfl, pst_bit hvy (by omega : i < x.m + 1), pst_bit hvx hi, fur_S hi]
    refine exists_congr fun w => and_congr_right fun hw => ?_
    have h1 := ix_a hvx hi hw
    rw [fur_ix D (by omega)]
    have h2 := fur_P n (ixM x.S x.m ((x.S i).a w)) (by omega) (by omega)
    unfold opP at h2
    rw [show (fur x u p).m = x.m + 1 from rfl] at h2
    rw [h2]
include hmo
theorem fur_hit {i k : Nat} (hi : i < x.m) (hk : k < x.m) : hitX (fur x u p) i k = hitX x i k := by
  unfold hitX; rw [fur_O (by omega), fur_O (by omega)]
theorem fur_opm {i k : Nat} (hk : k < x.m) : (i, k) ∈ opL (fur x u p) ↔ (i, k) ∈ opL x := by
  rw [opL_mem, opL_mem]
  constructor
  · rintro ⟨h1, h2, h3, h4⟩
    have h1 : i < k := h1
    have h3 : (opP (fur x u p) k).testBit i = false := h3
    rw [fur_P D (k + 1) k (Nat.lt_succ_self k) hk] at h3
    have h4 : hitX (fur x u p) i k = true := h4
    rw [fur_hit hmo D (by omega) hk] at h4
    exact ⟨h1, hk, h3, h4⟩
  · rintro ⟨h1, h2, h3, h4⟩
    have h1 : i < k := h1
    refine ⟨h1, (show k < x.m + 1 by omega), ?_, ?_⟩
    · show (opP (fur x u p) k).testBit i = false
      rw [fur_P D (k + 1) k (Nat.lt_succ_self k) hk]; exact h3
    · show hitX (fur x u p) i k = true
      rw [fur_hit hmo D (by omega) hk]; exact h4
theorem fur_stand {s : Nat} (hs : inS x.m s) : StandN (fur x u p) s ↔ StandN x s := by
  have hb : ∀ i, s.testBit i = true → i < x.m := fun i hi => inS_bit hs hi
  refine and_congr ?_ (and_congr ?_ ?_)
  · refine forall_congr' fun i => forall_congr' fun hi => ?_
    rw [fur_P D (i + 1) i (Nat.lt_succ_self i) (hb i hi)]
  · refine forall_congr' fun i => forall_congr' fun k => forall_congr' fun hi => forall_congr' fun hk => ?_
    have e : (foeN (opL (fur x u p)) i).testBit k = (foeN (opL x) i).testBit k := by
      rw [Bool.eq_iff_iff, foe_bit, foe_bit, fur_opm hmo D (hb k hk), fur_opm hmo D (hb i hi)]
    rw [e]
  · have e : (bl s).map (stM (fur x u p)) = (bl s).map (stM x) := by
      apply List.map_congr_left
      intro i hi
      have := inS_mem hs hi
      unfold stM; rw [fur_O (by omega)]
    rw [e]; rfl
theorem fur_run {s : Nat} (hs : inS x.m s) : runF (fur x u p).O (fl0 (fur x u p)) (bl s) = runF x.O (fl0 x) (bl s) := by
  have key : ∀ (l : List Nat) (X : FlS), (∀ i, i ∈ l → i < x.m) → runF (fur x u p).O X l = runF x.O X l := by
    intro l
    induction l with
    | nil => intro X _; rfl
    | cons a l ih =>
      intro X h
      show runF (fur x u p).O (apS X ((fur x u p).O a)) l = runF x.O (apS X (x.O a)) l
      rw [fur_O (by have := h a (List.mem_cons_self ..); omega)]
      exact ih _ fun i hi => h i (List.mem_cons_of_mem _ hi)
  exact key (bl s) _ fun i hi => inS_mem hs hi
theorem fur_ask {q : Nat} {a : Nat → Int} (h1 : askE x q a = 0) (h2 : askE (fur x u p) q a = 0) : askS (fur x u p) q a = askS x q a ∧ askB (fur x u p) q a = askB x q a := by
  obtain ⟨he, hs, hin, hB⟩ := ask_ok h1
  obtain ⟨he2, hs2, hin2, hB2⟩ := ask_ok h2
  have e : askS (fur x u p) q a = askS x q a := by
    apply Nat.eq_of_testBit_eq
    intro t
    rw [Bool.eq_iff_iff]
    unfold askS
    rw [rdN_bit, rdN_bit]
    refine exists_congr fun w => and_congr_right fun hw => ?_
    rw [show (fur x u p).m = x.m + 1 from rfl, fur_ix D (of_decide_eq_true hs w hw).1]
  refine ⟨e, ?_⟩
  rw [hB, hB2, Bool.eq_iff_iff, beh_iff he hin, beh_iff he2 hin2, e]
  exact fur_stand hmo D hin
theorem fur_re {q : Nat} {a : Nat → Int} (h1 : askE x q a = 0) (h2 : askE (fur x u p) q a = 0) : reE x q a = reE (fur x u p) q a ∧ eqFI (reN x q a) (reN (fur x u p) q a) (askF x q a) (askF (fur x u p) q a) = true := by
  obtain ⟨e1, e2⟩ := fur_ask hmo D h1 h2
  obtain ⟨he, hs, hin, hB⟩ := ask_ok h1
  have e3 := fur_run hmo D hin
  refine ⟨?_, ?_⟩
  · cases hb : askB x q a with
    | false => rw [(re_2 h1 hb).1, (re_2 h2 (e2.trans hb)).1]
    | true => rw [(re_3 h1 hb).1, (re_3 h2 (e2.trans hb)).1]
  · have e4 : askF (fur x u p) q a = askF x q a := by
      show (runF (fur x u p).O (fl0 (fur x u p)) (bl (askS (fur x u p) q a))).f = (runF x.O (fl0 x) (bl (askS x q a))).f
      rw [e1, e3]
    have e5 : reN (fur x u p) q a = reN x q a := by
      unfold reN
      rw [e2]
      split
      · rename_i hb
        unfold askN
        rw [if_pos h1, if_pos h2, e1]
        unfold behN
        have hb1 : behB (opY x) (askS x q a) = true := by rw [← hB]; exact hb
        have hb2 : behB (opY (fur x u p)) (askS x q a) = true := by rw [← e1, ← (ask_ok h2).2.2.2, e2]; exact hb
        rw [if_pos hb1, if_pos hb2]
        show (runF (fur x u p).O (fl0 (fur x u p)) (bl (askS x q a))).n = (runF x.O (fl0 x) (bl (askS x q a))).n
        rw [e3]
      · rfl
    rw [e4, e5]
    exact decide_eq_true ⟨rfl, fun i _ => feqB_rr _⟩
end
theorem clL_fur {P Q : Nat → Nat} {X Y : Nat → Nat → Bool} {m : Nat} (hP : ∀ k, k < m → Q k = P k) (hX : ∀ i k, i < m → k < m → Y i k = X i k) : ∀ k, k ≤ m → (clL Q Y (m + 1) k).filter (fun p => decide (p.2 ≠ m)) = clL P X m k
  | 0, _ => rfl
  | i + 1, hi => by
    have hR : ∀ t, i + 1 + t ≤ m → (clR Q Y i t).filter (fun p => decide (p.2 ≠ m)) = clR P X i t := by
      intro t
      induction t with
      | zero => intro _; rfl
      | succ t ih =>
        intro ht
        show (clR Q Y i t ++ _).filter _ = clR P X i t ++ _
        rw [List.filter_append, ih (by omega), hP (i + 1 + t) (by omega), hX i (i + 1 + t) (by omega) (by omega)]
        congr 1
        split
        · rw [List.filter_cons_of_pos (by simp; omega)]; rfl
        · rfl
    show (clL Q Y (m + 1) i ++ clR Q Y i (m + 1 - (i + 1))).filter _ = clL P X m i ++ clR P X i (m - (i + 1))
    rw [List.filter_append, clL_fur hP hX i (by omega), show m + 1 - (i + 1) = m - (i + 1) + 1 by omega]
    congr 1
    show (clR Q Y i (m - (i + 1)) ++ _).filter _ = _
    rw [List.filter_append, hR _ (by omega)]
    have : (if (Q (i + 1 + (m - (i + 1)))).testBit i = false ∧ Y i (i + 1 + (m - (i + 1))) = true then [(i, i + 1 + (m - (i + 1)))] else []).filter (fun p : Nat × Nat => decide (p.2 ≠ m)) = [] := by
      split
      · rw [List.filter_cons_of_neg (by simp; omega)]; rfl
      · rfl
    rw [this, List.append_nil]
def othP (x : CaS) (c : Int) (k : Nat) : List (Nat × Nat) := ((opL x).take k).filter fun p => decide ((x.S p.2).nu ≠ c)
theorem othP_0 (x : CaS) (c : Int) : othP x c 0 = [] := rfl
theorem prV_1 {x : CaS} {k : Nat} (hk : k < (opL x).length) : prV x k 1 = (x.S ((opL x)[k]).2).nu := by
  unfold prV; simp only [List.getD_eq_getElem?_getD, List.getElem?_eq_getElem hk, Option.getD_some]; rfl
theorem othP_t {x : CaS} {c : Int} {k : Nat} (hk : k < (opL x).length) (h : prV x k 1 ≠ c) : othP x c (k + 1) = othP x c k ++ [(opL x).getD k (0, 0)] := by
  unfold othP
  rw [List.take_succ, List.getElem?_eq_getElem hk, List.filter_append]
  rw [prV_1 hk] at h
  simp only [Option.toList_some, List.getD_eq_getElem?_getD, List.getElem?_eq_getElem hk, Option.getD_some]
  rw [List.filter_cons_of_pos (by simpa using h)]; rfl
theorem othP_f {x : CaS} {c : Int} {k : Nat} (hk : k < (opL x).length) (h : prV x k 1 = c) : othP x c (k + 1) = othP x c k := by
  unfold othP
  rw [List.take_succ, List.getElem?_eq_getElem hk, List.filter_append]
  rw [prV_1 hk] at h
  simp only [Option.toList_some]
  rw [List.filter_cons_of_neg (by simpa using h), List.filter_nil, List.append_nil]
theorem othP_le (x : CaS) (c : Int) (k : Nat) : (othP x c k).length ≤ k := by
  unfold othP
  exact Nat.le_trans (List.length_filter_le ..) (by rw [List.length_take]; omega)
def fl4 (x : CaS) (l : List (Nat × Nat)) : List Int := l.flatMap fun p => [clsI x p 0, clsI x p 1, clsI x p 2, clsI x p 3]
theorem fl4_s (x : CaS) (l : List (Nat × Nat)) (k : Nat) : fl4 x (l ++ [(opL x).getD k (0, 0)]) = fl4 x l ++ [prV x k 0, prV x k 1, prV x k 2, prV x k 3] := by
  unfold fl4; rw [List.flatMap_append]; rfl
theorem fl4_len (x : CaS) : ∀ l : List (Nat × Nat), (fl4 x l).length = l.length * 4
  | [] => rfl
  | a :: l => by
    have := fl4_len x l
    show ([_, _, _, _] ++ fl4 x l).length = _
    rw [List.length_append, this]; simp; omega
theorem fl4_at (x : CaS) : ∀ (l : List (Nat × Nat)) (i o : Nat), i < l.length → o < 4 → zL (fl4 x l) (i * 4 + o) = clsI x (l.getD i (0, 0)) o
  | [], i, o, h, _ => by simp at h
  | a :: l, 0, o, _, ho => by
    rcases (by omega : o = 0 ∨ o = 1 ∨ o = 2 ∨ o = 3) with rfl | rfl | rfl | rfl <;> rfl
  | a :: l, i + 1, o, hi, ho => by
    have ih := fl4_at x l i o (by simpa using hi) ho
    rw [show (i + 1) * 4 + o = (i * 4 + o) + 4 by omega]
    exact ih
theorem fur_oth {x : CaS} {u : StepS} {p : PtS} (hmo : x.mo = x.m) (D : FurD x u p) : othP (fur x u p) u.nu (opL (fur x u p)).length = opL x := by
  have hv := (cv_ok D.y).1
  have e : opL x = (opL (fur x u p)).filter (fun p => decide (p.2 ≠ x.m)) := by
    have h := clL_fur (P := opP x) (Q := opP (fur x u p)) (X := hitX x) (Y := hitX (fur x u p)) (m := x.m) (fun k hk => fur_P D (k + 1) k (Nat.lt_succ_self k) hk) (fun i k hi hk => fur_hit hmo D hi hk) x.m (Nat.le_refl _)
    have e2 : opL (fur x u p) = clL (opP (fur x u p)) (hitX (fur x u p)) (x.m + 1) x.m ++ clR (opP (fur x u p)) (hitX (fur x u p)) x.m (x.m + 1 - (x.m + 1)) := rfl
    rw [e2, Nat.sub_self]
    show opL x = (_ ++ []).filter _
    rw [List.append_nil, h]; rfl
  unfold othP
  rw [List.take_length, e]
  apply List.filter_congr
  intro w hw
  have hw2 : w.2 < x.m + 1 := (opL_mem.1 hw).2.1
  refine decide_eq_decide.2 ⟨fun h g => h (by rw [g, fur_Sm]), fun h g => h ?_⟩
  rcases (by omega : w.2 < x.m ∨ w.2 = x.m) with q | q
  · have := nu_lt hv q (by show x.m < x.m + 1; omega)
    rw [fur_Sm] at this; omega
  · exact q
theorem clsI_fur {x : CaS} {u : StepS} {p : PtS} (hmo : x.mo = x.m) {w : Nat × Nat} (h1 : w.1 < x.m) (h2 : w.2 < x.m) (o : Nat) : clsI (fur x u p) w o = clsI x w o := by
  rcases o with _ | _ | _ | o
  · show ((fur x u p).S w.1).nu = _; rw [fur_S h1]; rfl
  · show ((fur x u p).S w.2).nu = _; rw [fur_S h2]; rfl
  · show comX ((fur x u p).O w.1).k _ _ _ = _; rw [fur_O (by omega), fur_O (by omega)]; rfl
  · show comY ((fur x u p).O w.1).k _ _ _ = _; rw [fur_O (by omega), fur_O (by omega)]; rfl
def othW (x : CaS) (l : List (Nat × Nat)) (i o : Nat) : Int := zL (fl4 x l) (i * 4 + o)
theorem fur_keq {x : CaS} {u : StepS} {p : PtS} (hmo : x.mo = x.m) (D : FurD x u p) : keqB (prN (x0 x)) (othP (fur x u p) u.nu (opL (fur x u p)).length).length (prV x) (othW (fur x u p) (othP (fur x u p) u.nu (opL (fur x u p)).length)) = true := by
  rw [fur_oth hmo D]
  have e : prN (x0 x) = (opL x).length := prN_t (x0_e D.x)
  refine decide_eq_true ⟨e, fun i hi => ?_⟩
  rw [e] at hi
  have hm := opL_mem.1 (List.getElem_mem hi)
  have key : ∀ o, o < 4 → prV x i o = othW (fur x u p) (opL x) i o := fun o ho => by
    unfold othW
    rw [fl4_at _ _ _ _ hi ho]
    unfold prV
    simp only [List.getD_eq_getElem?_getD, List.getElem?_eq_getElem hi, Option.getD_some]
    exact (clsI_fur hmo (by omega) hm.2.1 o).symm
  exact ⟨key 0 (by decide), key 1 (by decide), key 2 (by decide), key 3 (by decide)⟩
theorem fur_law {x : CaS} {u : StepS} {p : PtS} {q : Nat} {a : Nat → Int} (hmo : x.mo = x.m) (h1 : reE (fur x u p) q a ≠ 1) (h2 : reE (fur x u p) q a ≠ 2) (h3 : reE x q a ≠ 1) : FurD x u p ∧ askE x q a = 0 ∧ askE (fur x u p) q a = 0 := by
  have key : ∀ z : CaS, askE z q a = 0 ∨ askE z q a = 1 ∨ askE z q a = 2 := fun z => by
    unfold askE
    split
    · exact Or.inr (Or.inl rfl)
    · split
      · exact Or.inr (Or.inl rfl)
      · unfold cvE; split
        · exact Or.inr (Or.inl rfl)
        · split
          · exact Or.inr (Or.inr rfl)
          · exact Or.inl rfl
  have hy : askE (fur x u p) q a = 0 := by
    rcases key (fur x u p) with h | h | h
    · exact h
    · exact absurd ((re_1 (by omega)).1.trans h) h1
    · exact absurd ((re_1 (by omega)).1.trans h) h2
  have D := fur_cv hmo (ask_ok hy).1
  refine ⟨D, ?_, hy⟩
  have e1 : askE x q a ≠ 1 := fun h => h3 ((re_1 (by omega)).1.trans h)
  cases hs : setB x.S x.m q a with
  | false => exact absurd (ask_s hs) e1
  | true => rw [ask_2 (by rw [D.x]; decide) hs]; exact D.x
def furS (x : CaS) (u : StepS) (p : PtS) (q : Nat) (a : Nat → Int) (D : Nat → Bool) : AS := ⟨[(2, .t (.one (.iv (.lst 16 p.k (oprF p.o))))), (3, .t (.one (.iv (.lst 1 q (intI a))))), (4, .t (.one (.ptr 0 0))), (5, .t (.one (.ptr 1 0))), (9, .t (.one (.iv (.g (.bool true))))), (37, bif D 3 then .any else bif D 0 then .t (.one (.slc 2 0 0 2)) else .any), (38, bif D 1 then .t (.one (.ptr 0 1)) else .any), (39, bif D 2 then .t (.one (.iv (.lst 2 x.m (stF x.S)))) else .any), (40, bif D 6 then .any else bif D 3 then .t (.one (.slc 2 0 x.m 2)) else .any), (41, bif D 4 then .t (.agg [.iv (.g (.int .i64 u.nu)), .iv (.lst 1 u.q (intI u.a))]) else .any), (42, bif D 5 then .t (.one (.slc 7 0 1 2)) else .any), (43, bif D 6 then .t (.one (.slc 2 0 (x.m + 1) 2)) else .any), (10, bif D 7 then .t (.one (.slc 2 0 (x.m + 1) 2)) else .any)], bif D 5 then [some [.iv (.lst 9 x.n (featF x.f)), .iv (.lst 2 x.m (stF x.S)), .iv (.lst 1 x.mo (ptF x.O))], some [.iv (.g (.int .i64 u.nu)), .iv (.lst 1 u.q (intI u.a))], bif D 0 then some (bif D 6 then rwS x u else bif D 3 then lstC (stF x.S) 2 x.m 0 else []) else none, none, none, none, none, some [.iv (.g (.int .i64 u.nu)), .iv (.lst 1 u.q (intI u.a))]] else bif D 0 then [some [.iv (.lst 9 x.n (featF x.f)), .iv (.lst 2 x.m (stF x.S)), .iv (.lst 1 x.mo (ptF x.O))], some [.iv (.g (.int .i64 u.nu)), .iv (.lst 1 u.q (intI u.a))], some (bif D 6 then rwS x u else bif D 3 then lstC (stF x.S) 2 x.m 0 else [])] else [some [.iv (.lst 9 x.n (featF x.f)), .iv (.lst 2 x.m (stF x.S)), .iv (.lst 1 x.mo (ptF x.O))], some [.iv (.g (.int .i64 u.nu)), .iv (.lst 1 u.q (intI u.a))]], 141, [], LP.top⟩
attribute [go_sem] furS
theorem rwS_eqv (x : CaS) (u : StepS) (p : PtS) : ∀ i o, i < x.m + 1 → o < 2 → (civ ((rwS x u).getD (i * 2 + o) .any)).eqv (stF (fur x u p).S i o) := fun i o hi ho => by
  unfold rwS
  rcases (by omega : i < x.m ∨ i = x.m) with h | rfl
  · have e := lstC_getf (stF x.S) 2 x.m 0 i o h ho
    have hl : i * 2 + o < (lstC (stF x.S) 2 x.m 0).length := by rw [lstC_len]; omega
    rw [List.getD_eq_getElem?_getD, List.getElem?_append_left hl, e]
    show (stF x.S (0 + i) o).eqv _
    rw [Nat.zero_add]; unfold stF; rw [fur_S h]; exact IV.eqv_refl _
  · have hl : (lstC (stF x.S) 2 x.m 0).length = x.m * 2 := lstC_len _ _ _ _
    rw [List.getD_eq_getElem?_getD, List.getElem?_append_right (by omega), hl, Nat.add_sub_cancel_left]
    unfold stF; rw [fur_Sm]
    rcases (by omega : o = 0 ∨ o = 1) with rfl | rfl <;> exact IV.eqv_refl _
theorem rwO_eqv (x : CaS) (u : StepS) (p : PtS) : ∀ i o, i < x.mo + 1 → o < 1 → (civ ((rwO x p).getD (i + o) .any)).eqv (ptF (fur x u p).O i o) := fun i o hi ho => by
  obtain rfl : o = 0 := by omega
  unfold rwO
  rcases (by omega : i < x.mo ∨ i = x.mo) with h | rfl
  · have e := lstC_getf (ptF x.O) 1 x.mo 0 i 0 h (by decide)
    have hl : i + 0 < (lstC (ptF x.O) 1 x.mo 0).length := by rw [lstC_len]; omega
    rw [List.getD_eq_getElem?_getD, List.getElem?_append_left hl, show i + 0 = i * 1 + 0 by omega, e]
    show (ptF x.O (0 + i) 0).eqv _
    rw [Nat.zero_add]; unfold ptF; rw [fur_O h]; exact IV.eqv_refl _
  · have hl : (lstC (ptF x.O) 1 x.mo 0).length = x.mo := by rw [lstC_len]; omega
    rw [List.getD_eq_getElem?_getD, List.getElem?_append_right (by omega), hl, show x.mo + 0 - x.mo = 0 by omega]
    unfold ptF; rw [fur_Om]; exact IV.eqv_refl _
theorem rowI_4 (zs : List Int) (a b c d : Int) (i : Nat) : List.map (CV.purge i) (rowI zs ++ [.iv (.g (.int .i64 a)), .iv (.g (.int .i64 b)), .iv (.g (.int .i64 c)), .iv (.g (.int .i64 d))]) = rowI (zs ++ [a, b, c, d]) := by
  have e : rowI zs ++ [.iv (.g (.int .i64 a)), .iv (.g (.int .i64 b)), .iv (.g (.int .i64 c)), .iv (.g (.int .i64 d))] = rowI (zs ++ [a, b, c, d]) := by unfold rowI; simp
  rw [e]; exact rowI_pur _ i
theorem reF_ok {x : CaS} (hx : x.Ok) (q : Nat) (a : Nat → Int) : reN x q a ≤ 300 ∧ ∀ i, i < reN x q a → (askF x q a i).Ok := by
  by_cases h : reE x q a = 0
  · obtain ⟨h1, h2, h3⟩ := re_ok h
    rw [h3]; exact askF_ok hx h1 h2
  · rw [re_0 h]; exact ⟨Nat.zero_le _, fun i hi => absurd hi (Nat.not_lt_zero i)⟩
theorem oth_eqv (x : CaS) (l : List (Nat × Nat)) : ∀ i o, i < l.length → o < 4 → (civ ((rowI (fl4 x l)).getD (i * 4 + o) .any)).eqv (kF (othW x l) i o) := fun i o hi ho => by
  have h : i * 4 + o < (fl4 x l).length := by rw [fl4_len]; omega
  rw [rowI_get _ _ h]; unfold othW zL; exact rfl
theorem prs_y (x : CaS) (u : StepS) (p : PtS) (hy : (fur x u p).Ok) (F G : Nat → Nat → IV) (hF : ∀ i o, i < x.m + 1 → o < 2 → (F i o).eqv (stF (fur x u p).S i o)) (hG : ∀ i o, i < x.mo + 1 → o < 1 → (G i o).eqv (ptF (fur x u p).O i o)) : CallsP Tryz.prog 12 [.one (.lst 2 (x.m + 1) F), .one (.lst 1 (x.mo + 1) G)] (.tup [.one (.lst 4 (prN (x0 (fur x u p))) (kF (prV (fur x u p)))), .one (.g (.int .i64 (cvE (x0 (fur x u p)))))]) := (prs_x (fur x u p) hy).eqv ⟨⟨rfl, rfl, hF⟩, ⟨rfl, rfl, hG⟩, trivial⟩ (PV.eqv_refl _)
theorem res_y (x : CaS) (u : StepS) (p : PtS) (hy : (fur x u p).Ok) (F G : Nat → Nat → IV) (hF : ∀ i o, i < x.m + 1 → o < 2 → (F i o).eqv (stF (fur x u p).S i o)) (hG : ∀ i o, i < x.mo + 1 → o < 1 → (G i o).eqv (ptF (fur x u p).O i o)) (q : Nat) (a : Nat → Int) (hqq : q ≤ 9223372036854775807) : CallsP Tryz.prog 17 [.one (.lst 9 x.n (featF x.f)), .one (.lst 2 (x.m + 1) F), .one (.lst 1 (x.mo + 1) G), .one (.lst 1 q (intI a))] (.tup [.one (.lst 9 (reN (fur x u p) q a) (featF (askF (fur x u p) q a))), .one (.g (.int .i64 (reE (fur x u p) q a)))]) := (res_p (fur x u p) hy q a hqq).eqv ⟨PT.eqv_refl _, ⟨rfl, rfl, hF⟩, ⟨rfl, rfl, hG⟩, PT.eqv_refl _, trivial⟩ (PV.eqv_refl _)
set_option maxRecDepth 100000 in
set_option maxHeartbeats 4000000 in
theorem fu_law (x : CaS) (hx : x.Ok) (u : StepS) (hu : u.q ≤ 9223372036854775807) (p : PtS) (hp : p.k ≤ 9223372036854775807) (hpo : ∀ i, i < p.k → (p.o i).f.Ok) (q : Nat) (a : Nat → Int) (hqq : q ≤ 9223372036854775807) : CallsP Tryz.prog 9 [.agg [.lst 9 x.n (featF x.f), .lst 2 x.m (stF x.S), .lst 1 x.mo (ptF x.O)], .agg [.g (.int .i64 u.nu), .lst 1 u.q (intI u.a)], .one (.lst 16 p.k (oprF p.o)), .one (.lst 1 q (intI a))] (.t (.one (.g (.bool (true))))) := by
  have hxm := hx.m
  have mk0 : True := trivial
  have mk1 : True := trivial
  have mk2 : True := trivial
  have mk3 : True := trivial
  have hcv : True := trivial
  have hkq : True := trivial
  have hre : True := trivial
  have hsm : True := trivial
  refine CallsP_of Tryz.func9 rfl (by rw [Tryz.ntmps9]; simp) ?_
  simp only [Tryz.ntmps9, zM, PT.tv, argEnv, Nat.zero_add, Nat.reduceAdd]
  repeat' (first
 | ((with_reducible refine Need.mk ?_); first | exact rowI_iv _ | exact ⟨rwS_iv _ _, rwO_iv _ _⟩)
 | ((with_reducible show AW _ _ _ _); first
 | (with_reducible first | refine aS (fun K hK => ?_) | refine aI ?_ | refine aX ?_ | refine aT ?_ | refine aC ?_ | refine aB ?_)
 | (first
 | (with_reducible first | refine aP 0 [0,1,2,3] ?_ | refine aP 1 [2,3,4,5] ?_ | refine aP 2 [2,3,4,5,9] ?_ | refine aP 3 [9] ?_)
 | ((with_reducible refine aR (c := Code.region 4 _ true) [2,3,4,5,9] ?_); (with_reducible refine AW_regionT 2 [2,3,4,5,9,37,38,39,40,41,42,43,10] [([], [0,3,6,7]), ([], [1,2,3,6,7]), ([1], [2,3,6,7]), ([0,1,2], [3,6,7]), ([], [4,5,6,7]), ([4], [5,6,7]), ([0,1,2,3,4,5], [6,7]), ([0,1,2,3,4,5,6], [7])] [0,1,2,3,4,5,6,7] (furS x u p q a) ?hm4 ?hb4 ?hd4 ?hc4 ?h04 ?hh4 ?ha4 ?hq4); (case' hm4 => kernel_rfl); (case' hb4 => kernel_rfl); (case' hd4 => kernel_rfl); (case' hc4 => kernel_rfl); (case' ha4 => kernel_rfl); (case' h04 => (exact ⟨rfl⟩)); (case' hh4 => (simp only [List.toList_toArray, List.length_cons, List.length_nil, Nat.reduceAdd]; repeat' (first | ((with_reducible show runD _ _ _ _ _ _ _); first | exact runD_nilI | (with_reducible refine runD_consI (fun D hT hF K hK => ?_) ?_)) | ((with_reducible show opTr _ _ _ _ _ _); (simp only [dnT, dnF, and_true] at hT hF); simp (maxSteps := 2000000) only [go_sem, reduceIte, reduceCtorEq, xA, xL, xD, xE, xM, xS, xB, Tryz.f9, stF0, stF1, ptF0, intI, kF0, lstC_pur, rwS_pur, rwO_pur, rwS_app, rwO_app, rwS_frz, rwO_frz, rwS_len, rwO_len, lstC_len, hgetB, geB, gdB, purB, Bool.cond_self, maxLen, rowI_pur, rowI_len, rowI_4, fl4_len, othP_0, hcv, hkq, hre, hsm, hT, hF, updD]) | ((with_reducible refine hK _ ?_); clear hK K) | ((with_reducible show Leaf _ _); simp (maxSteps := 2000000) only [go_sem, reduceIte, reduceCtorEq, xA, xL, xD, xE, xM, xS, xB, Tryz.f9, stF0, stF1, ptF0, intI, kF0, lstC_pur, rwS_pur, rwO_pur, rwS_app, rwO_app, rwS_frz, rwO_frz, rwS_len, rwO_len, lstC_len, hgetB, geB, gdB, purB, Bool.cond_self, maxLen, rowI_pur, rowI_len, rowI_4, fl4_len, othP_0, hcv, hkq, hre, hsm, hT, hF, updD]; exact ⟨rfl⟩) | ((with_reducible show Leaf _ _); cases hDu0 : D 0 <;> (simp (maxSteps := 2000000) only [go_sem, reduceIte, reduceCtorEq, xA, xL, xD, xE, xM, xS, xB, Tryz.f9, stF0, stF1, ptF0, intI, kF0, lstC_pur, rwS_pur, rwO_pur, rwS_app, rwO_app, rwS_frz, rwO_frz, rwS_len, rwO_len, lstC_len, hgetB, geB, gdB, purB, Bool.cond_self, maxLen, rowI_pur, rowI_len, rowI_4, fl4_len, othP_0, hcv, hkq, hre, hsm, hT, hF, updD, hDu0]; exact ⟨rfl⟩)) | ((with_reducible show Leaf _ _); cases hDu5 : D 5 <;> (simp (maxSteps := 2000000) only [go_sem, reduceIte, reduceCtorEq, xA, xL, xD, xE, xM, xS, xB, Tryz.f9, stF0, stF1, ptF0, intI, kF0, lstC_pur, rwS_pur, rwO_pur, rwS_app, rwO_app, rwS_frz, rwO_frz, rwS_len, rwO_len, lstC_len, hgetB, geB, gdB, purB, Bool.cond_self, maxLen, rowI_pur, rowI_len, rowI_4, fl4_len, othP_0, hcv, hkq, hre, hsm, hT, hF, updD, hDu5]; exact ⟨rfl⟩)) | ((with_reducible show Leaf _ _); cases hDu4 : D 4 <;> cases hDu5 : D 5 <;> (simp (maxSteps := 2000000) only [go_sem, reduceIte, reduceCtorEq, xA, xL, xD, xE, xM, xS, xB, Tryz.f9, stF0, stF1, ptF0, intI, kF0, lstC_pur, rwS_pur, rwO_pur, rwS_app, rwO_app, rwS_frz, rwO_frz, rwS_len, rwO_len, lstC_len, hgetB, geB, gdB, purB, Bool.cond_self, maxLen, rowI_pur, rowI_len, rowI_4, fl4_len, othP_0, hcv, hkq, hre, hsm, hT, hF, updD, hDu4, hDu5]; exact ⟨rfl⟩)) | (with_reducible refine And.intro ?_ ?_) | omega))); (case' hq4 => (intro D hT; simp only [dnT, and_true] at hT; simp (maxSteps := 2000000) only [go_sem, reduceIte, reduceCtorEq, xA, xL, xD, xE, xM, xS, xB, Tryz.f9, stF0, stF1, ptF0, intI, kF0, lstC_pur, rwS_pur, rwO_pur, rwS_app, rwO_app, rwS_frz, rwO_frz, rwS_len, rwO_len, lstC_len, hgetB, geB, gdB, purB, Bool.cond_self, maxLen, rowI_pur, rowI_len, rowI_4, fl4_len, othP_0, hcv, hkq, hre, hsm, hT, updD])))
 | (with_reducible first | refine aP 5 [2,3,4,5,9,10] ?_ | refine aP 6 [3,4,5,9,10,11] ?_ | refine AW_frz (c := Code.region 7 _ false) [2,8] ?_ (aP 7 [3,4,5,9,10,11,12,13] ?_) | refine aP 8 [3,4,5,9,10,11,12,13,14,15] ?_ | refine aP 9 [3,4,5,9,10,11,12,13,14,15,16,17] ?_ | refine aP 10 [5,9,12,13,14,15,16,17,18,19] ?_ | refine aP 11 [9] ?_ | refine aP 12 [5,9,12,13,14,16,17,18,19] ?_ | refine aP 13 [5,9,12,13,14,16,17,18,19,20] ?_ | refine aP 14 [5,9,12,13,14,16,17,18,19,20,21] ?_ | refine aP 15 [5,9,12,13,14,16,17,18,19,20,21] ?_)
 | ((with_reducible refine aR (c := Code.region 16 _ true) [5,9,12,13,14,16,17,18,19,20,21] ?_); (with_reducible refine aD ?_ ?_ ?_ ?_); (focus kernel_rfl); (focus kernel_rfl); (focus kernel_rfl))
 | (with_reducible first | refine aP 17 [5,9,12,13,14,16,17,18,19,20,21] ?_ | refine aP 18 [9,12,13,16,17,18,19,20] ?_))
 | ((with_reducible show AW _ (Code.loop _) _ _); first
 | ((with_reducible refine aL (c := (Code.seq (Code.seq (Code.region 14 _ _) _) _)) (ι := Nat) [5,9,12,13,14,16,17,18,19] (fun i => [(20, .t (.one (.slc 10 0 (othP (fur x u p) u.nu i).length 4))), (21, iA .i64 (i : Int))]) (fun i => [(10, rowI (fl4 (fur x u p) (othP (fur x u p) u.nu i)))]) (fun i => i ≤ (opL (fur x u p)).length) (fun i => (opL (fur x u p)).length - i) 0 ?lg14 ?l114 ?l214 ?li14 ?lr14); (case' lg14 => rintro i _); (case' li14 => try (omega)); (case' lr14 => rintro i hi KR hR14; simp only [keepE, hupd, hset, lk, if_true, if_false, xE, reduceIte, zN, stF0, stF1, ptF0, kF0, lstC_pur, rwS_pur, rwO_pur, rwS_app, rwO_app, rwS_frz, rwO_frz, rwS_len, rwO_len, lstC_len, hgetB, geB, gdB, purB, Bool.cond_self, maxLen, rowI_pur, rowI_len, rowI_4, fl4_len, othP_0, hcv, hkq, hre, hsm]))))
 | ((first | (with_reducible refine And.intro ?_ ?_) | (with_reducible refine Need.mk ?_)); focus (first | exact True.intro | omega | (intro _; exact True.intro) | (simp; done)))
 | (with_reducible refine retK_n ?_)
 | ((with_reducible show condN _ _ _ _ _ _); first
 | ((with_reducible refine condN_t ?_ ?_) <;> (intro hc; (try simp only [zB, zC, reduceCtorEq] at hc); ((try (exfalso; omega)); (try (clear mk0; have hm9 : x.m ≤ 9 := (by have := hc.1; omega); have hmo : x.mo = x.m := (by have := hc.2; omega); have hy := fur_ok hx hu hp hpo (by omega) (by omega); have hRx := reF_ok hx q a; have hRy := reF_ok hy q a; have hRx1 := hRx.1; have hRy1 := hRy.1)); (try (clear mk1 hcv hre hsm; have hL := fur_law hmo hc.1.1.2 hc.1.2 hc.2; have hD := hL.1; have hcv := x0_e hD.x; have hpx : prN (x0 x) = (opL x).length := prN_t hcv; have hpy : prN (x0 (fur x u p)) = (opL (fur x u p)).length := prN_t (x0_e hD.y); have hlx := opL_le x (by omega); have hly := opL_le (fur x u p) (show x.m + 1 ≤ 10 by omega); have hre := (fur_re hmo hD hL.2.1 hL.2.2).1; have hsm := (fur_re hmo hD hL.2.1 hL.2.2).2)); (try (clear mk2; have hol := othP_le (fur x u p) u.nu i)); (try (clear mk3 hkq; have ei : i = (opL (fur x u p)).length := (by omega); subst ei; have hkq := fur_keq hmo hD))); (try (exfalso; contradiction)))))
 | ((with_reducible refine And.intro ?_ ?_); focus ((with_reducible show chkR _ _ _ = true); kernel_rfl))
 | ((with_reducible show callN _ _ _ _ _ _ _ _ _ _); first
 | (refine callN_q (k := 11) fnok_11 (head_p) ?_ ?_)
 | (refine callN_q (k := 12) fnok_12 (prs_x x hx) ?_ ?_)
 | (refine callN_q (k := 12) fnok_12 (prs_y x u p hy _ _ (rwS_eqv x u p) (rwO_eqv x u p)) ?_ ?_)
 | (refine callN_q (k := 17) fnok_17 (res_p x hx q a hqq) ?_ ?_)
 | (refine callN_q (k := 17) fnok_17 (res_y x u p hy _ _ (rwS_eqv x u p) (rwO_eqv x u p) q a hqq) ?_ ?_))
 | ((with_reducible show callGN _ _ _ _ _ _ _ _ _ _); first
 | (refine callGN_q (k := 14) fnok_14 (fun hg => sac_q (prN (x0 x)) (othP (fur x u p) u.nu (opL (fur x u p)).length).length (prV x) (othW (fur x u p) (othP (fur x u p) u.nu (opL (fur x u p)).length)) _ (by omega) (by omega) (oth_eqv (fur x u p) (othP (fur x u p) u.nu (opL (fur x u p)).length))) ?_ ?_)
 | (refine callGN_q (k := 19) fnok_19 (fun hg => samel_p (reN x q a) (reN (fur x u p) q a) (askF x q a) (askF (fur x u p) q a) (by omega) (by omega) hRx.2 hRy.2) ?_ ?_))
 | ((with_reducible refine hR14 _ (i + 1) ?_); (try clear hR14 KR))
 | ((with_reducible refine Told.mk ?_); simp only [go_sem, reduceIte, reduceCtorEq, xA, xL, xD, xE, xM, xS, xB, stF0, stF1, ptF0, intI, kF0, lstC_pur, rwS_pur, rwO_pur, rwS_app, rwO_app, rwS_frz, rwO_frz, rwS_len, rwO_len, lstC_len, hgetB, geB, gdB, purB, Bool.cond_self, maxLen, rowI_pur, rowI_len, rowI_4, fl4_len, othP_0, hcv, hkq, hre, hsm] <;> ((((try simp (disch := omega) only [seaWrap, Int.natCast_add, Int.cast_ofNat_Int, and_true, true_and, and_self]); (repeat' (first | omega | rfl | (with_reducible refine And.intro ?_ ?_) | ((rw [othP_t (by omega) (by assumption)]; first | (rw [fl4_s]; exact wkC_eq rfl (rowI_iv _)) | (simp; done))) | ((rw [othP_f (by omega) (by assumption)]; exact wkC_eq rfl (rowI_iv _))) | ((rw [othP_f (by omega) (by assumption)])))); done))))
 | ((fail_if_success (with_reducible show AW _ _ _ _)); simp (maxSteps := 2000000) only [go_sem, reduceIte, reduceCtorEq, xA, xL, xD, xE, xM, xS, xB, Tryz.f9, stF0, stF1, ptF0, intI, kF0, lstC_pur, rwS_pur, rwO_pur, rwS_app, rwO_app, rwS_frz, rwO_frz, rwS_len, rwO_len, lstC_len, hgetB, geB, gdB, purB, Bool.cond_self, maxLen, rowI_pur, rowI_len, rowI_4, fl4_len, othP_0, hcv, hkq, hre, hsm])
 | ((with_reducible refine hK _ ?_); clear hK K)
 | (with_reducible apply_assumption -exfalso only [*]))
end Go.Proofs.YtmnejmpjmniiiaaGreatDoor
