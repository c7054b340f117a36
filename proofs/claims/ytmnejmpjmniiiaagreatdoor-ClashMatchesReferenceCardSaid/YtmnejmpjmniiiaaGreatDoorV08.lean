/- Part 8 of 18: contracts of functions and plain laws for the root text. No condition. -/
import Derived.Test.YtmnejmpjmniiiaaGreatDoorV01
import Derived.Test.YtmnejmpjmniiiaaGreatDoorV02
import Derived.Test.YtmnejmpjmniiiaaGreatDoorV03
import Derived.Test.YtmnejmpjmniiiaaGreatDoorV04
import Derived.Test.YtmnejmpjmniiiaaGreatDoorV05
import Derived.Test.YtmnejmpjmniiiaaGreatDoorV06
import Derived.Test.YtmnejmpjmniiiaaGreatDoorV07
set_option linter.unusedVariables false
set_option linter.unusedSimpArgs false
set_option linter.unusedSectionVars false
set_option linter.deprecated false
namespace Go.Proofs.YtmnejmpjmniiiaaGreatDoor
open Go.RowKit Go.Sea
open Nat renaming reduceAdd -> xA, reduceLT -> xL, reduceLeDiff -> xD, reduceEqDiff -> xE, reduceMul -> xM, reduceSub -> xS, reduceBEq -> xB
theorem ad9 : BP Tryz.prog 205 = some (2, 2) := by kernel_rfl
theorem uP : aM Tryz.prog 163 = true := by kernel_rfl
theorem Bt : aM Tryz.prog 191 = true := by kernel_rfl
theorem FI : aM Tryz.prog 205 = true := by kernel_rfl
theorem adP : fF Tryz.prog 205 = true := by kernel_rfl
theorem RZ : cZ Tryz.prog 205 0 = some (0, 2) := by kernel_rfl
theorem Qw : cZ Tryz.prog 205 1 = some (2, 2) := by kernel_rfl
theorem aaD : oU Tryz.prog 205 = none := by kernel_rfl
theorem acf : mU Tryz.prog 185 = some (false, 1) := by kernel_rfl
theorem aaB : mU Tryz.prog 205 = some (true, 4) := by kernel_rfl
theorem abO : eX Tryz.prog 205 = some [.iv (.g (.int .i64 0)), .iv (.g (.int .i64 0)), .iv (.g (.int .i64 0)), .iv (.g (.int .i64 0))] := by kernel_rfl
attribute [go_sem] ad9 uP Bt adP RZ Qw aaD acf aaB abO
def nx (n i : Nat) : Nat := BO n ((i : Int) + 1)
theorem qg {n i : Nat} (h : 0 < n) : nx n i < n := by
  unfold nx BO
  have h1 := Int.emod_nonneg ((i : Int) + 1 + n) (show (n : Int) ≠ 0 by omega)
  have h2 := Int.emod_lt_of_pos ((i : Int) + 1 + n) (show (0 : Int) < n by omega)
  omega
def twT (P : Nat -> Nat -> Int) (n i : Nat) : Int := P i 0 * P (nx n i) 1 - P i 1 * P (nx n i) 0
def Pj (P : Nat -> Nat -> Int) (n : Nat) : Nat -> Int
  | 0 => 0
  | i + 1 => Pj P n i + twT P n i
theorem vJ (P : Nat -> Nat -> Int) (n i : Nat) : Pj P n (i + 1) = Pj P n i + (P i 0 * P (nx n i) 1 - P i 1 * P (nx n i) 0) := rfl
theorem Kr {P : Nat -> Nat -> Int} {n i j : Nat} (h : jG P n) (hi : i < n) (hj : j < n) : (-1000000000000 <= P i 0 * P j 1 /\ P i 0 * P j 1 <= 1000000000000) /\ (-1000000000000 <= P i 1 * P j 0 /\ P i 1 * P j 0 <= 1000000000000) := by
  have a := oP.1 (h i hi)
  have b := oP.1 (h j hj)
  have h1 := j6 (M := 1000000) a.1 b.2
  have h2 := j6 (M := 1000000) a.2 b.1
  omega
theorem JE {P : Nat -> Nat -> Int} {n : Nat} (h : jG P n) : ∀ i, i <= n -> -(2000000000000 * (i : Int)) <= Pj P n i /\ Pj P n i <= 2000000000000 * (i : Int)
  | 0, _ => by simp [Pj]
  | i + 1, hi => by
    have := JE h i (by omega)
    have t := Kr h (show i < n by omega) (qg (n := n) (i := i) (by omega))
    rw [vJ]; omega
set_option maxRecDepth 100000 in
set_option maxHeartbeats 4000000 in
theorem VJ (n : Nat) (P : Nat -> Nat -> Int) (hn : 0 < n /\ n <= 1000) (hp : jG P n) : au Tryz.prog 165 [.one (.lst 2 n (bX P))] (.t (.one (.g (.int .i64 (Pj P n n))))) := by
  have hz : True := trivial
  refine ah Tryz.func165 rfl (by rw [Tryz.ntmps165]; simp) ?_
  simp only [Tryz.ntmps165, zM, PT.tv, ak, Nat.zero_add, Nat.reduceAdd]
  repeat' (first
 | ((with_reducible show AW _ _ _ _); first
 | (with_reducible first | refine aS (fun K hK => ?_) | refine aI ?_ | refine aX ?_ | refine aT ?_ | refine aC ?_ | refine aB ?_)
 | ((refine fJ (k := 205) rfl Tryz.func205 rfl FI (by rw [Tryz.ntmps205]; simp) ?_ ?_ (fun l hlne A B hA hB => ?_)); (focus (simp (maxSteps := 2000000) only [go_sem, reduceIte, reduceCtorEq, xA, xL, xD, xE, xM, xS, xB, Tryz.f165, Tryz.f205, Tryz.f191, bX, vJ, nx, hz, Int.toNat_one, Int.reduceToNat]; try exact True.intro)); (focus (simp (maxSteps := 2000000) only [go_sem, reduceIte, reduceCtorEq, xA, xL, xD, xE, xM, xS, xB, Tryz.f165, Tryz.f205, Tryz.f191, bX, vJ, nx, hz, Int.toNat_one, Int.reduceToNat]; try exact True.intro)); simp only [Tryz.ntmps205, List.map_cons, List.map_nil, LV.tv, ak, yV, Nat.zero_add, Nat.reduceAdd]; clear hlne)
 | (with_reducible refine Bw (by assumption) ?_)
 | (first
 | (with_reducible first | refine aP (ops := #[⟨some 2, _, _, _, _, _⟩]) 0 [0,9] ?_ | refine aP (ops := #[⟨some 5, _, _, _, _, _⟩, _, _]) 0 [0,1] ?_ | refine aP (ops := #[⟨some 1, _, _, _, _, _⟩, _]) 0 [0] ?_ | refine aP 1 [0,1,5,6,7,9] ?_ | refine aP (ops := #[⟨some 6, _, _, _, _, _⟩, _]) 2 [0,3,9] ?_ | refine aP (ops := #[⟨some 9, _, _, _, _, _⟩, _, _, _, _, _]) 2 [0,1,5,6,7] ?_ | refine aP 3 [3,9] ?_)
 | ((with_reducible refine aR (c := Code.region 3 _ true) [0,1,3,4,5,6,7] ?_); (with_reducible refine Bp 8 ?_ ?_ ?_ ?_ ?_); (focus kernel_rfl); (focus kernel_rfl); (focus kernel_rfl); (focus kernel_rfl))
 | (with_reducible first | refine aP (ops := #[⟨some 10, _, _, _, _, _⟩, _, _, _, _, _, _, _, _, _, _, _, _, _, _, _, _, _]) 4 [3,5,9] ?_ | refine aP (ops := #[⟨some 22, _, _, _, _, _⟩, _]) 4 [0,1,5,6,7] ?_ | refine aP 5 [3] ?_))
 | ((with_reducible show AW _ (Code.loop _) _ _); first
 | ((with_reducible refine aL (c := (Code.seq (Code.region 1 _ _) _)) (ι := Nat) [0,1,5,6] (fun i => [(7, iA .i64 (i : Int))]) (fun i => [(0, [.iv (.g (.int .i64 (Pj P n i)))])]) (fun i => i <= n) (fun i => n - i) 0 ?lg1 ?l11 ?l21 ?li1 ?lr1); (case' lg1 => rintro i _); (case' li1 => try exact Nat.zero_le _); (case' lr1 => rintro i hi KR hR1; (have hb := JE hp i (by omega); have ht : i < n -> _ := fun hi' => Kr hp hi' (qg (n := n) (i := i) (by omega)); simp only [nx] at ht; have ht2 := ht); simp only [bf, bN, hset, lk, if_true, if_false, xE, reduceIte, zN, vJ, nx, hz, Int.toNat_one, Int.reduceToNat]))))
 | ((first | (with_reducible refine And.intro ?_ ?_) | (with_reducible refine Need.mk ?_)); focus (first | exact True.intro | omega | (simp (disch := omega) only [Bool.and_eq_true, Bool.or_eq_true, decide_eq_true_eq, bne_iff_ne, ne_eq] at *; omega)))
 | (with_reducible refine aA ?_)
 | ((with_reducible show aY _ _ _ _ _ _); first
 | ((with_reducible refine aH ?_ ?_) <;> (intro hc; (try simp only [zB, zC, reduceCtorEq] at hc); (try (exfalso; contradiction)))))
 | ((with_reducible show ∀ _ : AS -> Prop, _ -> _); intro K hK)
 | ((with_reducible refine And.intro ?_ ?_); focus (((with_reducible show sN _ _ _ _ = true); kernel_rfl)))
 | ((with_reducible show aN _ _ _ _ _ _ _ _ _ _); ((refine bY (k := 191) Tryz.func191 rfl Bt (by rw [Tryz.ntmps191]; simp) ?_ ?_ (fun K hK => ?_)); (focus (exact True.intro)); (focus ((simp [iM]; done))); simp only [Tryz.ntmps191, List.map_cons, List.map_nil, List.nil_append, List.cons_append, List.append_nil, LV.tv, ak, Nat.zero_add, Nat.reduceAdd]))
 | ((with_reducible show dA _ _ _ _ _ _ _ _ _ _ _ _ _); first
 | (refine aV (k := 163) uP (AB n P _ hn (by omega)) ?_ ?_))
 | ((with_reducible refine hR1 _ (i + 1) ?_); (try clear hR1 KR))
 | ((with_reducible refine Told.mk ?_); simp only [go_sem, reduceIte, reduceCtorEq, xA, xL, xD, xE, xM, xS, xB, bX, vJ, nx, hz, Int.toNat_one, Int.reduceToNat] <;> ((((try simp (disch := omega) only [aJ, Int.natCast_add, Int.cast_ofNat_Int, and_true, true_and, and_self]); (repeat' (first | omega | rfl)); done))))
 | ((fail_if_success (with_reducible show AW _ _ _ _)); simp (maxSteps := 2000000) only [go_sem, reduceIte, reduceCtorEq, xA, xL, xD, xE, xM, xS, xB, Tryz.f165, Tryz.f205, Tryz.f191, bX, vJ, nx, hz, Int.toNat_one, Int.reduceToNat])
 | ((fail_if_success (with_reducible show AW _ _ _ _)); simp (disch := omega) only [aJ, dG, dH])
 | ((with_reducible show aN _ _ _ _ _ _ (.yld _) _ _ _); (refine nX (by simp only [Fj, if_true]; exact rfl) ?_ (by simp) ?_ ?_ (fun K hK => ?_)); (focus (exact True.intro)); (focus (simp [oI])); (focus ((simp [iM]; done))); simp only [jw, gf, if_true, Nat.reduceAdd])
 | ((with_reducible refine hK _ ?_); clear hK K)
 | (with_reducible apply_assumption -exfalso only [*]))
  all_goals (((obtain rfl : i = n := by omega); rfl))
end Go.Proofs.YtmnejmpjmniiiaaGreatDoor
namespace Go.Proofs.YtmnejmpjmniiiaaGreatDoor
open Go.RowKit Go.Sea
open Nat renaming reduceAdd -> xA, reduceLT -> xL, reduceLeDiff -> xD, reduceEqDiff -> xE, reduceMul -> xM, reduceSub -> xS, reduceBEq -> xB
theorem Jm : aM Tryz.prog 192 = true := by kernel_rfl
theorem ajl : mU Tryz.prog 4 = some (false, 1) := by kernel_rfl
theorem ajD : eX Tryz.prog 4 = some [.iv (.g (.bool false))] := by kernel_rfl
attribute [go_sem] Jm ajl ajD
def UH (P : Nat -> Nat -> Int) (n i k : Nat) : Prop := ((k : Int) <= (i : Int) + 1 \/ ((i : Int) = 0 /\ (k : Int) = (n : Int) - 1)) \/ mvB (P i 0) (P i 1) (P (nx n i) 0) (P (nx n i) 1) (P k 0) (P k 1) (P (nx n k) 0) (P (nx n k) 1) = false
instance (P : Nat -> Nat -> Int) (n i k : Nat) : Decidable (UH P n i k) := by unfold UH; infer_instance
def Gx (P : Nat -> Nat -> Int) (n : Nat) : Bool := decide (∀ i, i < n -> ∀ k, k < n -> UH P n i k)
theorem Vr {P : Nat -> Nat -> Int} {n i k : Nat} (h2 : mvB (P i 0) (P i 1) (P (BO n ((i : Int) + 1)) 0) (P (BO n ((i : Int) + 1)) 1) (P k 0) (P k 1) (P (BO n ((k : Int) + 1)) 0) (P (BO n ((k : Int) + 1)) 1) = true) (h1 : (i : Int) + 1 < k /\ ((i : Int) ≠ 0 \/ (k : Int) ≠ (n : Int) - 1)) (hi : (i : Int) < n) (hk : (k : Int) < n) : false = Gx P n := by
  refine (decide_eq_false fun g => ?_).symm
  have t := g i (by omega) k (by omega)
  unfold UH nx at t
  rw [h2] at t
  rcases t with t | t
  · omega
  · cases t
theorem UW {P : Nat -> Nat -> Int} {n i : Nat} (h : (n : Int) <= i) (g : ∀ i', i' < i -> ∀ k', k' < n -> UH P n i' k') : true = Gx P n := (decide_eq_true fun j hj k hk => g j (by omega) k hk).symm
set_option maxRecDepth 100000 in
set_option maxHeartbeats 4000000 in
theorem Tt (n : Nat) (P : Nat -> Nat -> Int) (hn : 0 < n /\ n <= 1000) : au Tryz.prog 164 [.one (.lst 2 n (bX P))] (.t (.one (.g (.bool (Gx P n))))) := by
  have hz : True := trivial
  refine ah Tryz.func164 rfl (by rw [Tryz.ntmps164]; simp) ?_
  simp only [Tryz.ntmps164, zM, PT.tv, ak, Nat.zero_add, Nat.reduceAdd]
  repeat' (first
 | ((with_reducible show AW _ _ _ _); first
 | (with_reducible first | refine aS (fun K hK => ?_) | refine aI ?_ | refine aX ?_ | refine aT ?_ | refine aC ?_ | refine aB ?_)
 | ((refine fJ (k := 205) rfl Tryz.func205 rfl FI (by rw [Tryz.ntmps205]; simp) ?_ ?_ (fun l hlne A B hA hB => ?_)); (focus (simp (maxSteps := 2000000) only [go_sem, reduceIte, reduceCtorEq, xA, xL, xD, xE, xM, xS, xB, Tryz.f164, Tryz.f205, Tryz.f191, bX, nx, hz, Int.toNat_one, Int.reduceToNat]; try exact True.intro)); (focus (simp (maxSteps := 2000000) only [go_sem, reduceIte, reduceCtorEq, xA, xL, xD, xE, xM, xS, xB, Tryz.f164, Tryz.f205, Tryz.f191, bX, nx, hz, Int.toNat_one, Int.reduceToNat]; try exact True.intro)); simp only [Tryz.ntmps205, List.map_cons, List.map_nil, LV.tv, ak, yV, Nat.zero_add, Nat.reduceAdd]; clear hlne)
 | (with_reducible refine Bw (by assumption) ?_)
 | (first
 | (with_reducible first | refine aP 0 [0,1,14,15,18,19] ?_ | refine aP (ops := #[⟨some 10, _, _, _, _, _⟩, _, _, _]) 1 [1,2,14,15,18,19] ?_ | refine aP (ops := #[⟨some 8, _, _, _, _, _⟩]) 1 [0,1,5,6,7] ?_ | refine aP (ops := #[⟨some 3, _, _, _, _, _⟩, _]) 1 [1] ?_ | refine aP (ops := #[⟨some 12, _, _, _, _, _⟩, _]) 2 [1,2,3,14,15,18,19] ?_ | refine aP (ops := #[⟨some 9, _, _, _, _, _⟩, _, _, _, _, _]) 2 [0,1,5,6,7] ?_ | refine aP 3 [1,2,3,14,15,18,19] ?_)
 | ((with_reducible refine aR (c := Code.region 3 _ true) [0,1,3,4,5,6,7] ?_); (with_reducible refine Bp 8 ?_ ?_ ?_ ?_ ?_); (focus kernel_rfl); (focus kernel_rfl); (focus kernel_rfl); (focus kernel_rfl))
 | (with_reducible first | refine aP (ops := #[⟨some 5, _, _, _, _, _⟩, _]) 4 [1,2,3,4,14,15,18,19] ?_ | refine aP (ops := #[⟨some 22, _, _, _, _, _⟩, _]) 4 [0,1,5,6,7] ?_ | refine aP 5 [1,2,3,4,5,14,15,18,19] ?_ | refine aP 6 [1,2,3,4,5,14,15,18,19] ?_ | refine aP 7 [1,2,3,4,5,6,14,15,18,19] ?_ | refine aP 8 [1,2,3,4,5,6,7,14,15,18,19] ?_ | refine aP 9 [1,2,3,4,5,7,14,15,18,19] ?_ | refine aP 10 [1,2,3,4,5,8,14,15,18,19] ?_ | refine aP 11 [2] ?_ | refine aP 12 [2] ?_))
 | ((with_reducible show AW _ (Code.loop _) _ _); first
 | ((have hO := hai; with_reducible refine aL (c := (Code.seq (Code.region 1 _ _) _)) (ι := Nat) [0,1,5,6] (fun k => [(7, iA .i64 (k : Int))]) (fun k => []) (fun k => k <= n /\ (∀ k', k' < k -> UH P n i k')) (fun k => n - k) 0 ?lg1b ?l11b ?l21b ?li1b ?lr1b); (case' lg1b => rintro k _); (case' li1b => try (exact ⟨Nat.zero_le _, fun i hi => absurd hi (Nat.not_lt_zero _)⟩)); (case' lr1b => rintro k ⟨hk, hak⟩ KR hR1b; simp only [bf, bN, hset, lk, if_true, if_false, xE, reduceIte, zN, nx, hz, Int.toNat_one, Int.reduceToNat]))
 | ((with_reducible refine aL (c := (Code.seq (Code.region 1 _ _) _)) (ι := Nat) [0,1,5,6] (fun i => [(7, iA .i64 (i : Int))]) (fun i => []) (fun i => i <= n /\ (∀ i', i' < i -> ∀ k', k' < n -> UH P n i' k')) (fun i => n - i) 0 ?lg1a ?l11a ?l21a ?li1a ?lr1a); (case' lg1a => rintro i _); (case' li1a => try (exact ⟨Nat.zero_le _, fun i hi => absurd hi (Nat.not_lt_zero _)⟩)); (case' lr1a => rintro i ⟨hi, hai⟩ KR hR1a; simp only [bf, bN, hset, lk, if_true, if_false, xE, reduceIte, zN, nx, hz, Int.toNat_one, Int.reduceToNat]))))
 | ((first | (with_reducible refine And.intro ?_ ?_) | (with_reducible refine Need.mk ?_)); focus (first | exact True.intro | omega | (simp (disch := omega) only [Bool.and_eq_true, Bool.or_eq_true, decide_eq_true_eq, bne_iff_ne, ne_eq] at *; omega) | (simp; done) | (simp; omega)))
 | (with_reducible refine aA ?_)
 | ((with_reducible show aY _ _ _ _ _ _); first
 | ((with_reducible refine aH ?_ ?_) <;> (intro hc; (try simp only [zB, zC, reduceCtorEq] at hc); (try (exfalso; contradiction)))))
 | ((with_reducible show ∀ _ : AS -> Prop, _ -> _); intro K hK)
 | ((with_reducible refine And.intro ?_ ?_); focus (((with_reducible show sN _ _ _ _ = true); kernel_rfl)))
 | ((with_reducible show aN _ _ _ _ _ _ _ _ _ _); first
 | (refine aj (k := 192) Jm (abx _ _ _ _ _ _ _ _) ?_ ?_)
 | ((refine bY (k := 191) Tryz.func191 rfl Bt (by rw [Tryz.ntmps191]; simp) ?_ ?_ (fun K hK => ?_)); (focus (exact True.intro)); (focus ((simp [iM]; done))); simp only [Tryz.ntmps191, List.map_cons, List.map_nil, List.nil_append, List.cons_append, List.append_nil, LV.tv, ak, Nat.zero_add, Nat.reduceAdd]))
 | ((with_reducible show dA _ _ _ _ _ _ _ _ _ _ _ _ _); first
 | (refine aV (k := 163) uP (AB n P _ hn (by omega)) ?_ ?_))
 | ((with_reducible refine hR1b _ (k + 1) ?_); (try clear hR1b KR))
 | ((with_reducible refine hR1a _ (i + 1) ?_); (try clear hR1a KR))
 | ((with_reducible refine Told.mk ?_); simp only [go_sem, reduceIte, reduceCtorEq, xA, xL, xD, xE, xM, xS, xB, bX, nx, hz, Int.toNat_one, Int.reduceToNat] <;> (first | (((try simp (disch := omega) only [aJ, Int.natCast_add, Int.cast_ofNat_Int, and_true, true_and, and_self]); (repeat' (first | omega | (with_reducible refine And.intro ?_ ?_) | ((exact all_succ (by assumption) (Or.inl (by omega)))) | ((exact all_succ (by assumption) (Or.inr (by assumption)))))); done)) | (((try simp (disch := omega) only [aJ, Int.natCast_add, Int.cast_ofNat_Int, and_true, true_and, and_self]); (repeat' (first | omega | (with_reducible refine And.intro ?_ ?_) | ((exact all_succ (by assumption) (fun k' hk' => hak k' (by omega)))))); done))))
 | ((fail_if_success (with_reducible show AW _ _ _ _)); simp (maxSteps := 2000000) only [go_sem, reduceIte, reduceCtorEq, xA, xL, xD, xE, xM, xS, xB, Tryz.f164, Tryz.f205, Tryz.f191, bX, nx, hz, Int.toNat_one, Int.reduceToNat])
 | ((fail_if_success (with_reducible show AW _ _ _ _)); simp (disch := omega) only [aJ, dG, dH])
 | ((with_reducible show aN _ _ _ _ _ _ (.yld _) _ _ _); (refine nX (by simp only [Fj, if_true]; exact rfl) ?_ (by simp) ?_ ?_ (fun K hK => ?_)); (focus (exact True.intro)); (focus (simp [oI])); (focus ((simp [iM]; done))); simp only [jw, gf, if_true, Nat.reduceAdd])
 | ((with_reducible refine hK _ ?_); clear hK K)
 | (with_reducible apply_assumption -exfalso only [*]))
  all_goals (first | exact Vr (by assumption) (by assumption) (by assumption) (by assumption) | exact UW (by assumption) (by assumption))
end Go.Proofs.YtmnejmpjmniiiaaGreatDoor
set_option maxRecDepth 100000
set_option maxHeartbeats 4000000
namespace Go.Proofs.YtmnejmpjmniiiaaGreatDoor
open Go.RowKit Go.Sea
open Nat renaming reduceAdd -> xA, reduceLT -> xL, reduceLeDiff -> xD, reduceEqDiff -> xE, reduceMul -> xM, reduceSub -> xS, reduceBEq -> xB
theorem vv : aM Tryz.prog 154 = true := by kernel_rfl
theorem Il : aM Tryz.prog 184 = true := by kernel_rfl
attribute [go_sem] vv Il
theorem Mh {P : Nat -> Nat -> Int} {n i k : Nat} (hp : jG P n) (hi : i < n) (hk : k < n) : mvB (P i 0) (P i 1) (P (nx n i) 0) (P (nx n i) 1) (P k 0) (P k 1) (P (nx n k) 0) (P (nx n k) 1) = pG (P i 0) (P i 1) (P (nx n i) 0) (P (nx n i) 1) (P k 0) (P k 1) (P (nx n k) 0) (P (nx n k) 1) := by
  unfold mvB
  rw [hp i hi, hp k hk, hp _ (qg (n := n) (i := i) (by omega)), hp _ (qg (n := n) (i := k) (by omega))]; rfl
theorem Y8 {P : Nat -> Nat -> Int} {n i k : Nat} (hp : jG P n) (h2 : pG (P i 0) (P i 1) (P (nx n i) 0) (P (nx n i) 1) (P k 0) (P k 1) (P (nx n k) 0) (P (nx n k) 1) = true) (h1 : (i : Int) > 0 \/ (k : Int) < (n : Int) - 1) (h0 : i + 2 <= k) (hi : (i : Int) < n) (hk : (k : Int) < n) : false = Gx P n := by
  rw [<- Mh hp (by omega) (by omega)] at h2
  exact Vr h2 (by omega) hi hk
theorem aeV {P : Nat -> Nat -> Int} {n i k : Nat} (hp : jG P n) (hi : (i : Int) < n) (hk : (k : Int) < n) (h2 : pG (P i 0) (P i 1) (P (nx n i) 0) (P (nx n i) 1) (P k 0) (P k 1) (P (nx n k) 0) (P (nx n k) 1) = false) : UH P n i k := Or.inr (by rw [Mh hp (by omega) (by omega)]; exact h2)
theorem afX {P : Nat -> Nat -> Int} {n i k : Nat} (hp : jG P n) (hi : (i : Int) < n) (hk : (k : Int) < n) (h : ((i : Int) <= 0 /\ (n : Int) - 1 <= k) \/ pG (P i 0) (P i 1) (P (nx n i) 0) (P (nx n i) 1) (P k 0) (P k 1) (P (nx n k) 0) (P (nx n k) 1) = false) : UH P n i k := by
  rcases h with h | h
  · exact Or.inl (Or.inr (by omega))
  · exact aeV hp hi hk h
theorem DX (n : Nat) (P : Nat -> Nat -> Int) (i : Nat) (hn : 0 < n /\ n <= 1000) (hi : i < n) : au Tryz.prog 154 [.one (.lst 2 n (bX P)), .one (.g (.int .i64 (i)))] (.t (.agg [.g (.int .i64 (P (nx n i) 0)), .g (.int .i64 (P (nx n i) 1))])) := by
  have hm : 0 <= ((i : Int) + 1) % (n : Int) /\ ((i : Int) + 1) % (n : Int) < (n : Int) := ⟨Int.emod_nonneg _ (by omega), Int.emod_lt_of_pos _ (by omega)⟩
  have he : (((i : Int) + 1) % (n : Int)).toNat = nx n i := by unfold nx BO; rw [Int.add_emod_right]
  refine ah Tryz.func154 rfl (by rw [Tryz.ntmps154]; simp) ?_
  simp only [Tryz.ntmps154, zM, PT.tv, ak, Nat.zero_add, Nat.reduceAdd]
  repeat' (first
 | ((with_reducible show AW _ _ _ _); first
 | (with_reducible first | refine aS (fun K hK => ?_) | refine aT ?_)
 | (first
 | (with_reducible first | refine aP 0 [0,1] ?_ | refine aP 1 [0,1,4] ?_)))
 | (((with_reducible refine And.intro ?_ ?_)); focus (first | (with_reducible assumption) | omega | (intros; simp_all; done)))
 | (with_reducible refine aA ?_)
 | ((fail_if_success (with_reducible show AW _ _ _ _)); simp (maxSteps := 2000000) only [go_sem, reduceIte, reduceCtorEq, xA, xL, xD, xE, xM, xS, xB, Tryz.f154, bX])
 | ((fail_if_success (with_reducible show AW _ _ _ _)); simp (disch := omega) only [aJ, dG, dH])
 | ((with_reducible refine hK _ ?_); clear hK K))
  all_goals (rw [he])
theorem VQ (ax ay bx by' cx cy : Int) (ha : dJ ax ay = true) (hb : dJ bx by' = true) (hc : dJ cx cy = true) : au Tryz.prog 153 [.agg [.g (.int .i64 (ax)), .g (.int .i64 (ay))], .agg [.g (.int .i64 (bx)), .g (.int .i64 (by'))], .agg [.g (.int .i64 (cx)), .g (.int .i64 (cy))]] (.t (.one (.g (.int .i64 (Kv ax ay bx by' cx cy))))) := by
  have hA := oP.1 ha
  have hB := oP.1 hb
  have hC := oP.1 hc
  have hX := tN ha hb hc
  refine ah Tryz.func153 rfl (by rw [Tryz.ntmps153]; simp) ?_
  simp only [Tryz.ntmps153, zM, PT.tv, ak, Nat.zero_add, Nat.reduceAdd]
  repeat' (first
 | ((with_reducible show AW _ _ _ _); first
 | (with_reducible first | refine aS (fun K hK => ?_) | refine aT ?_)
 | (first
 | (with_reducible refine aP 0 [0,1,2] ?_)
 | ((with_reducible refine aR (c := Code.region 1 _ true) [3,4,5] ?_); (with_reducible refine aD ?_ ?_ ?_ ?_); (focus kernel_rfl); (focus kernel_rfl); (focus kernel_rfl))))
 | ((first | (with_reducible refine And.intro ?_ ?_) | (with_reducible refine Need.mk ?_)); focus (exact True.intro))
 | (with_reducible refine aA ?_)
 | ((with_reducible refine And.intro ?_ ?_); focus ((with_reducible show fB _ _ _ = true); kernel_rfl))
 | ((with_reducible show dA _ _ _ _ _ _ _ _ _ _ _ _ _); first
 | (refine aV (k := 183) gX (iZ bx by' ax ay hB hA) ?_ ?_)
 | (refine aV (k := 183) gX (iZ cx cy ax ay hC hA) ?_ ?_)
 | (refine aV (k := 182) jX (lH (bx - ax) (by' - ay) (cx - ax) (cy - ay) hX.1 hX.2) ?_ ?_)
 | (refine aV (k := 181) zO (LY _) ?_ ?_))
 | ((fail_if_success (with_reducible show AW _ _ _ _)); simp (maxSteps := 2000000) only [go_sem, reduceIte, reduceCtorEq, xA, xL, xD, xE, xM, xS, xB, Tryz.f153])
 | ((with_reducible refine hK _ ?_); clear hK K))
  all_goals (rfl)
theorem RF (n : Nat) (P : Nat -> Nat -> Int) (hn : 0 < n /\ n <= 1000) (hp : jG P n) : au Tryz.prog 156 [.one (.lst 2 n (bX P))] (.t (.one (.g (.int .i64 (Pj P n n))))) := by
  refine ah Tryz.func156 rfl (by rw [Tryz.ntmps156]; simp) ?_
  simp only [Tryz.ntmps156, zM, PT.tv, ak, Nat.zero_add, Nat.reduceAdd]
  repeat' (first
 | ((with_reducible show AW _ _ _ _); first
 | (with_reducible first | refine aS (fun K hK => ?_) | refine aI ?_ | refine aX ?_ | refine aT ?_ | refine aC ?_ | refine aB ?_)
 | (first
 | (with_reducible first | refine aP 0 [0] ?_ | refine aP 1 [0] ?_ | refine aP 2 [0,3] ?_ | refine aP 3 [0,3,4] ?_ | refine aP 4 [0,3,4] ?_)
 | ((with_reducible refine aR (c := Code.region 5 _ true) [0,3,4] ?_); (with_reducible refine aD ?_ ?_ ?_ ?_); (focus kernel_rfl); (focus kernel_rfl); (focus kernel_rfl))
 | (with_reducible refine aP 6 [3] ?_))
 | ((with_reducible show AW _ (Code.loop _) _ _); first
 | ((with_reducible refine aL (c := (Code.seq (Code.seq (Code.region 3 _ _) _) _)) (ι := Nat) [0] (fun i => [(3, iA .i64 (Pj P n i)), (4, iA .i64 (i : Int))]) (fun i => []) (fun i => i <= n) (fun i => n - i) 0 ?lg3 ?l13 ?l23 ?li3 ?lr3); (case' lg3 => rintro i _); (case' li3 => try exact Nat.zero_le _); (case' lr3 => rintro i hi KR hR3; (have hb := JE hp i (by omega); have ht : i < n -> _ := fun hi' => Kr hp hi' (qg (n := n) (i := i) (by omega))); simp only [bf, bN, hset, lk, if_true, if_false, xE, reduceIte, zN, vJ]))))
 | ((first | (with_reducible refine And.intro ?_ ?_) | (with_reducible refine Need.mk ?_)); focus (first | exact True.intro | omega))
 | (with_reducible refine aA ?_)
 | ((with_reducible show aY _ _ _ _ _ _); first
 | ((with_reducible refine aH ?_ ?_) <;> (intro hc; (try simp only [zB, zC, reduceCtorEq] at hc); (try (exfalso; contradiction)))))
 | ((with_reducible refine And.intro ?_ ?_); focus ((with_reducible show fB _ _ _ = true); kernel_rfl))
 | ((with_reducible show dA _ _ _ _ _ _ _ _ _ _ _ _ _); first
 | (refine aV (k := 154) vv (DX n P _ hn (by omega)) ?_ ?_)
 | (refine aV (k := 182) jX (lH _ _ _ _ (by omega) (by omega)) ?_ ?_))
 | ((with_reducible refine hR3 _ (i + 1) ?_); (try clear hR3 KR))
 | ((with_reducible refine Told.mk ?_); simp only [go_sem, reduceIte, reduceCtorEq, xA, xL, xD, xE, xM, xS, xB, bX, vJ] <;> ((((try simp (disch := omega) only [aJ, Int.natCast_add, Int.cast_ofNat_Int, and_true, true_and, and_self]); (repeat' (first | omega | rfl)); done))))
 | ((fail_if_success (with_reducible show AW _ _ _ _)); simp (maxSteps := 2000000) only [go_sem, reduceIte, reduceCtorEq, xA, xL, xD, xE, xM, xS, xB, Tryz.f156, bX, vJ])
 | ((fail_if_success (with_reducible show AW _ _ _ _)); simp (disch := omega) only [aJ, dG, dH])
 | ((with_reducible refine hK _ ?_); clear hK K)
 | (with_reducible apply_assumption -exfalso only [*]))
  all_goals (((obtain rfl : i = n := by omega); rfl))
theorem OL (n : Nat) (P : Nat -> Nat -> Int) (hn : 0 < n /\ n <= 1000) (hp : jG P n) : au Tryz.prog 155 [.one (.lst 2 n (bX P))] (.t (.one (.g (.bool (Gx P n))))) := by
  refine ah Tryz.func155 rfl (by rw [Tryz.ntmps155]; simp) ?_
  simp only [Tryz.ntmps155, zM, PT.tv, ak, Nat.zero_add, Nat.reduceAdd]
  repeat' (first
 | ((with_reducible show AW _ _ _ _); first
 | (with_reducible first | refine aS (fun K hK => ?_) | refine aI ?_ | refine aX ?_ | refine aT ?_ | refine aC ?_ | refine aB ?_)
 | (first
 | (with_reducible first | refine aP 0 [0] ?_ | refine aP 1 [0] ?_ | refine aP 2 [0,3] ?_ | refine aP 3 [0,3,4] ?_ | refine aP 4 [0,3,4] ?_ | refine aP 5 [0,3,4] ?_ | refine aP 6 [0,3,4,5] ?_ | refine aP 7 [0,3,4,5] ?_)
 | ((with_reducible refine aR (c := Code.region 8 _ true) [0,3,4,5] ?_); (with_reducible refine aD ?_ ?_ ?_ ?_); (focus kernel_rfl); (focus kernel_rfl); (focus kernel_rfl))
 | (with_reducible first | refine aP 9 [] ?_ | refine aP 10 [] ?_))
 | ((with_reducible show AW _ (Code.loop _) _ _); first
 | ((with_reducible refine aL (c := (Code.seq (Code.seq (Code.region 3 _ _) _) _)) (ι := Nat) [0,3] (fun i => [(4, iA .i64 (i : Int))]) (fun i => []) (fun i => i <= n /\ (∀ i', i' < i -> ∀ k', k' < n -> UH P n i' k')) (fun i => n - i) 0 ?lg3 ?l13 ?l23 ?li3 ?lr3); (case' lg3 => rintro i _); (case' li3 => try (exact ⟨Nat.zero_le _, fun i hi => absurd hi (Nat.not_lt_zero _)⟩)); (case' lr3 => rintro i ⟨hi, hai⟩ KR hR3; simp only [bf, bN, hset, lk, if_true, if_false, xE, reduceIte, zN]))
 | ((with_reducible refine aL (c := (Code.seq (Code.seq (Code.region 6 _ _) _) _)) (ι := Nat) [0,3,4] (fun k => [(5, iA .i64 (k : Int))]) (fun k => []) (fun k => i + 2 <= k /\ (k <= n \/ k = i + 2) /\ (∀ k', k' < k -> UH P n i k')) (fun k => n - k) (i + 2) ?lg6 ?l16 ?l26 ?li6 ?lr6); (case' lg6 => rintro k _); (case' li6 => try (exact ⟨by omega, by omega, fun k2 h2 => Or.inl (Or.inl (by omega))⟩)); (case' lr6 => rintro k ⟨hk0, hk, hak⟩ KR hR6; simp only [bf, bN, hset, lk, if_true, if_false, xE, reduceIte, zN]))))
 | ((first | (with_reducible refine And.intro ?_ ?_) | (with_reducible refine Need.mk ?_)); focus (first | (intro _; (with_reducible assumption)) | (intros; (repeat' (first | omega | (with_reducible refine And.intro ?_ ?_))); done) | (simp; done)))
 | (with_reducible refine aA ?_)
 | ((with_reducible show aY _ _ _ _ _ _); first
 | ((with_reducible refine aH ?_ ?_) <;> (intro hc; (try simp only [zB, zC, reduceCtorEq] at hc); (try (exfalso; contradiction)))))
 | ((with_reducible refine And.intro ?_ ?_); focus ((with_reducible show fB _ _ _ = true); kernel_rfl))
 | ((with_reducible show jT _ _ _ _ _ _ _ _ _ _ _ _ _); first
 | (refine fZ (k := 154) vv (fun hg => DX n P _ hn (by omega)) ?_ ?_)
 | (refine fZ (k := 184) Il (fun hg => KE _ _ _ _ _ _ _ _ (hp _ (by omega)) (hp _ (qg (by omega))) (hp _ (by omega)) (hp _ (qg (by omega)))) ?_ ?_))
 | ((with_reducible refine hR3 _ (i + 1) ?_); (try clear hR3 KR))
 | ((with_reducible refine hR6 _ (k + 1) ?_); (try clear hR6 KR))
 | ((with_reducible refine Told.mk ?_); simp only [go_sem, reduceIte, reduceCtorEq, xA, xL, xD, xE, xM, xS, xB, bX] <;> (first | (((try simp (disch := omega) only [aJ, Int.natCast_add, Int.cast_ofNat_Int, and_true, true_and, and_self]); (repeat' (first | omega | (with_reducible refine And.intro ?_ ?_) | ((exact all_succ (by assumption) (fun k' hk' => hak k' (by omega)))))); done)) | (((try simp (disch := omega) only [aJ, Int.natCast_add, Int.cast_ofNat_Int, and_true, true_and, and_self]); (repeat' (first | omega | (with_reducible refine And.intro ?_ ?_) | ((exact all_succ (by assumption) (afX hp (by assumption) (by assumption) (by assumption)))))); done))))
 | ((fail_if_success (with_reducible show AW _ _ _ _)); simp (maxSteps := 2000000) only [go_sem, reduceIte, reduceCtorEq, xA, xL, xD, xE, xM, xS, xB, Tryz.f155, bX])
 | ((fail_if_success (with_reducible show AW _ _ _ _)); simp (disch := omega) only [aJ, dG, dH])
 | ((with_reducible refine hK _ ?_); clear hK K)
 | (with_reducible apply_assumption -exfalso only [*]))
  all_goals (first | exact Y8 hp hc.2 hc.1 (by omega) (by omega) (by omega) | exact UW (by assumption) (by assumption))
end Go.Proofs.YtmnejmpjmniiiaaGreatDoor
namespace Go.Proofs.YtmnejmpjmniiiaaGreatDoor
open Go.RowKit Go.Sea
open Nat renaming reduceAdd -> xA, reduceLT -> xL, reduceLeDiff -> xD, reduceEqDiff -> xE, reduceMul -> xM, reduceSub -> xS, reduceBEq -> xB
theorem p8 : aM Tryz.prog 128 = true := by kernel_rfl
theorem FT : aM Tryz.prog 152 = true := by kernel_rfl
theorem Gr : aM Tryz.prog 153 = true := by kernel_rfl
theorem IW : aM Tryz.prog 155 = true := by kernel_rfl
theorem Gj : aM Tryz.prog 156 = true := by kernel_rfl
attribute [go_sem] p8 FT Gr IW Gj
def ltI (P : Nat -> Nat -> Int) (i : Nat) : Prop := P 0 0 < P i 0 \/ (P 0 0 = P i 0 /\ P 0 1 < P i 1)
instance (P : Nat -> Nat -> Int) (i : Nat) : Decidable (ltI P i) := by unfold ltI; infer_instance
def P7 (P : Nat -> Nat -> Int) (i : Nat) : Prop := dJ (P i 0) (P i 1) = true /\ (0 < i -> ltI P i)
instance (P : Nat -> Nat -> Int) (i : Nat) : Decidable (P7 P i) := by unfold P7; infer_instance
def Ro (n i : Nat) : Nat := (((i : Int) + 2) % (n : Int)).toNat
def trI (P : Nat -> Nat -> Int) (n i : Nat) : Int := Kv (P i 0) (P i 1) (P (nx n i) 0) (P (nx n i) 1) (P (Ro n i) 0) (P (Ro n i) 1)
def tQ (n : Nat) (P : Nat -> Nat -> Int) : Bool := decide ((3 <= n /\ n <= 24) /\ (∀ i, i < n -> P7 P i) /\ (∀ i, i < n -> trI P n i ≠ 0) /\ Gx P n = true /\ 0 < Pj P n n)
theorem Vk {n : Nat} {P : Nat -> Nat -> Int} (h : (n : Int) < 3 \/ (n : Int) > 24) : false = tQ n P := (decide_eq_false fun g => by omega).symm
theorem Tq {n i : Nat} {P : Nat -> Nat -> Int} (h : dJ (P i 0) (P i 1) = false) (hi : (i : Int) < n) : false = tQ n P :=
  (decide_eq_false fun g => by have := (g.2.1 i (by omega)).1; rw [h] at this; cases this).symm
theorem Tx {n i : Nat} {P : Nat -> Nat -> Int} (h : decide (P 0 0 < P i 0 \/ (P 0 0 = P i 0 /\ P 0 1 < P i 1)) = false) (h0 : (i : Int) > 0) (hi : (i : Int) < n) : false = tQ n P :=
  (decide_eq_false fun g => by have := (g.2.1 i (by omega)).2 (by omega); unfold ltI at this; rw [decide_eq_false_iff_not] at h; exact h this).symm
theorem ad7 {n i : Nat} {P : Nat -> Nat -> Int} (h : dJ (P i 0) (P i 1) = false \/ ((i : Int) > 0 /\ ¬ (P 0 0 < P i 0 \/ P 0 0 = P i 0 /\ P 0 1 < P i 1))) (hi : (i : Int) < n) : false = tQ n P := by
  rcases h with h | h
  · exact Tq h hi
  · exact Tx (decide_eq_false h.2) h.1 hi
theorem Ve {n i : Nat} {P : Nat -> Nat -> Int} (h : trI P n i = 0) (hi : (i : Int) < n) : false = tQ n P := (decide_eq_false fun g => g.2.2.1 i (by omega) h).symm
theorem ZY {n i j : Nat} {P : Nat -> Nat -> Int} (hn : 3 <= n /\ n <= 24) (hi : (n : Int) <= i) (hj : (n : Int) <= j) (g : ∀ i', i' < i -> P7 P i') (g2 : ∀ i', i' < j -> trI P n i' ≠ 0) : (Gx P n && decide (Pj P n n > 0)) = tQ n P := by
  refine Bool.eq_iff_iff.2 ?_
  simp only [tQ, Bool.and_eq_true, decide_eq_true_eq]
  exact ⟨fun h => ⟨hn, fun k hk => g k (by omega), fun k hk => g2 k (by omega), h.1, h.2⟩, fun h => ⟨h.2.2.2.1, h.2.2.2.2⟩⟩
theorem uq {n i : Nat} {P : Nat -> Nat -> Int} (hi : (n : Int) <= i) (g : ∀ i', i' < i -> P7 P i') : jG P n := fun k hk => (g k (by omega)).1
set_option maxRecDepth 100000 in
set_option maxHeartbeats 4000000 in
theorem acO (n : Nat) (P : Nat -> Nat -> Int) (hn : n <= 9223372036854775807) : au Tryz.prog 131 [.one (.lst 2 n (bX P))] (.t (.one (.g (.bool (tQ n P))))) := by
  refine ah Tryz.func131 rfl (by rw [Tryz.ntmps131]; simp) ?_
  simp only [Tryz.ntmps131, zM, PT.tv, ak, Nat.zero_add, Nat.reduceAdd]
  repeat' (first
 | ((with_reducible show AW _ _ _ _); first
 | (with_reducible first | refine aS (fun K hK => ?_) | refine aI ?_ | refine aX ?_ | refine aT ?_ | refine aC ?_ | refine aB ?_)
 | (first
 | (with_reducible first | refine aP 0 [0] ?_ | refine aP 1 [0] ?_ | refine aP 2 [0,3] ?_ | refine aP 3 [] ?_ | refine aP 4 [0,3] ?_ | refine aP 5 [0,3,4] ?_ | refine aP 6 [0,3,4] ?_ | refine aP 7 [0,3,4] ?_)
 | ((with_reducible refine aR (c := Code.region 8 _ true) [0,3,4,5] ?_); (with_reducible refine aD ?_ ?_ ?_ ?_); (focus kernel_rfl); (focus kernel_rfl); (focus kernel_rfl))
 | (with_reducible first | refine aP 9 [] ?_ | refine aP 10 [0,3] ?_ | refine aP 11 [0,3,6] ?_ | refine aP 12 [0,3,6] ?_)
 | ((with_reducible refine aR (c := Code.region 13 _ true) [0,3,6] ?_); (with_reducible refine aD ?_ ?_ ?_ ?_); (focus kernel_rfl); (focus kernel_rfl); (focus kernel_rfl))
 | (with_reducible first | refine aP 14 [] ?_ | refine aP 15 [0] ?_))
 | ((with_reducible show AW _ (Code.loop _) _ _); first
 | ((with_reducible refine aL (c := (Code.seq (Code.seq (Code.region 5 _ _) _) _)) (ι := Nat) [0,3] (fun i => [(4, iA .i64 (i : Int))]) (fun i => []) (fun i => i <= n /\ (∀ i', i' < i -> P7 P i')) (fun i => n - i) 0 ?lg5 ?l15 ?l25 ?li5 ?lr5); (case' lg5 => rintro i _); (case' li5 => try (exact ⟨Nat.zero_le _, fun i hi => absurd hi (Nat.not_lt_zero _)⟩)); (case' lr5 => rintro i ⟨hi, hai⟩ KR hR5; simp only [bf, bN, hset, lk, if_true, if_false, xE, reduceIte, zN]))
 | ((with_reducible refine aL (c := (Code.seq (Code.seq (Code.region 11 _ _) _) _)) (ι := Nat) [0,3] (fun j => [(6, iA .i64 (j : Int))]) (fun j => []) (fun j => j <= n /\ (∀ j', j' < j -> trI P n j' ≠ 0)) (fun j => n - j) 0 ?lg11 ?l111 ?l211 ?li11 ?lr11); (case' lg11 => rintro j _); (case' li11 => try (exact ⟨Nat.zero_le _, fun i hi => absurd hi (Nat.not_lt_zero _)⟩)); (case' lr11 => rintro j ⟨hj, haj⟩ KR hR11; (have hm : 0 <= ((j : Int) + 2) % (n : Int) /\ ((j : Int) + 2) % (n : Int) < (n : Int) := ⟨Int.emod_nonneg _ (by omega), Int.emod_lt_of_pos _ (by omega)⟩); simp only [bf, bN, hset, lk, if_true, if_false, xE, reduceIte, zN]))))
 | ((first | (with_reducible refine And.intro ?_ ?_) | (with_reducible refine Need.mk ?_)); focus (first | exact True.intro | (with_reducible assumption) | omega | (intro _; (with_reducible assumption)) | (intros; (repeat' (first | omega | (with_reducible refine And.intro ?_ ?_))); done) | (simp; done) | (simp +contextual; done)))
 | (with_reducible refine aA ?_)
 | ((with_reducible show aY _ _ _ _ _ _); first
 | ((with_reducible refine aH ?_ ?_) <;> (intro hc; (try simp only [zB, zC, reduceCtorEq] at hc); (try (exfalso; contradiction)))))
 | ((with_reducible refine And.intro ?_ ?_); focus ((with_reducible show fB _ _ _ = true); kernel_rfl))
 | ((with_reducible show aN _ _ _ _ _ _ _ _ _ _); first
 | (refine aj (k := 128) p8 (Ee _ _) ?_ ?_)
 | (refine aj (k := 155) IW (OL n P (by omega) (uq (by omega) hai)) ?_ ?_))
 | ((with_reducible show jT _ _ _ _ _ _ _ _ _ _ _ _ _); first
 | (refine fZ (k := 152) FT (fun hg => VP _ _ _ _) ?_ ?_))
 | ((with_reducible show dA _ _ _ _ _ _ _ _ _ _ _ _ _); first
 | (refine aV (k := 154) vv (DX n P _ (by omega) (by omega)) ?_ ?_)
 | (refine aV (k := 153) Gr (VQ _ _ _ _ _ _ ((uq (by omega) hai) _ (by omega)) ((uq (by omega) hai) _ (qg (by omega))) ((uq (by omega) hai) _ (by omega))) ?_ ?_))
 | ((with_reducible show bK _ _ _ _ _ _ _ _ _ _); first
 | (refine aQ (k := 156) Gj (fun hg => RF n P (by omega) (uq (by omega) hai)) ?_ ?_))
 | ((with_reducible refine hR5 _ (i + 1) ?_); (try clear hR5 KR))
 | ((with_reducible refine hR11 _ (j + 1) ?_); (try clear hR11 KR))
 | ((with_reducible refine Told.mk ?_); simp only [go_sem, reduceIte, reduceCtorEq, xA, xL, xD, xE, xM, xS, xB, bX] <;> ((((try simp (disch := omega) only [aJ, Int.natCast_add, Int.cast_ofNat_Int, and_true, true_and, and_self]); (repeat' (first | omega | (with_reducible refine And.intro ?_ ?_) | (exact all_succ (by assumption) (by assumption)) | ((exact all_succ (by assumption) ⟨by simp_all, fun h0 => by unfold ltI; simp_all; omega⟩)))); done))))
 | ((fail_if_success (with_reducible show AW _ _ _ _)); simp (maxSteps := 2000000) only [go_sem, reduceIte, reduceCtorEq, xA, xL, xD, xE, xM, xS, xB, Tryz.f131, bX])
 | ((fail_if_success (with_reducible show AW _ _ _ _)); simp (disch := omega) only [aJ, dG, dH])
 | ((with_reducible refine hK _ ?_); clear hK K)
 | (with_reducible apply_assumption -exfalso only [*]))
  all_goals (first | exact Vk (by assumption) | exact ad7 (by assumption) (by assumption) | exact ZY (by omega) (by omega) (by omega) hai haj | exact Ve (by assumption) (by omega))
end Go.Proofs.YtmnejmpjmniiiaaGreatDoor
set_option maxRecDepth 100000
set_option maxHeartbeats 4000000
namespace Go.Proofs.YtmnejmpjmniiiaaGreatDoor
open Go.RowKit Go.Sea
open Nat renaming reduceAdd -> xA, reduceLT -> xL, reduceLeDiff -> xD, reduceEqDiff -> xE, reduceMul -> xM, reduceSub -> xS, reduceBEq -> xB
theorem Rj : aM Tryz.prog 159 = true := by kernel_rfl
theorem Jp : aM Tryz.prog 160 = true := by kernel_rfl
theorem IG : aM Tryz.prog 161 = true := by kernel_rfl
theorem FK : aM Tryz.prog 162 = true := by kernel_rfl
theorem Hl : aM Tryz.prog 164 = true := by kernel_rfl
theorem Gl : aM Tryz.prog 165 = true := by kernel_rfl
theorem Iq : aM Tryz.prog 188 = true := by kernel_rfl
attribute [go_sem] Jp IG FK Hl Gl Iq
def trJ (P : Nat -> Nat -> Int) (n i : Nat) : Int := tvV (P (BO n ((i : Int) - 1)) 0) (P (BO n ((i : Int) - 1)) 1) (P i 0) (P i 1) (P (BO n ((i : Int) + 1)) 0) (P (BO n ((i : Int) + 1)) 1)
theorem Js {n i : Nat} (hi : i < n) : nx n i = if i + 1 = n then 0 else i + 1 := by
  unfold nx BO
  rw [Int.add_emod_right]
  split
  · rw [show (i : Int) + 1 = n by omega, Int.emod_self]; rfl
  · rw [Int.emod_eq_of_lt (by omega) (by omega)]; omega
theorem J7 {n i : Nat} (hi : i < n) : BO n ((i : Int) - 1) = if i = 0 then n - 1 else i - 1 := by
  unfold BO
  split
  · rw [Int.emod_eq_of_lt (by omega) (by omega)]; omega
  · rw [Int.add_emod_right, Int.emod_eq_of_lt (by omega) (by omega)]; omega
theorem Xx {n i : Nat} (hn : 3 <= n) (hi : i < n) : Ro n i = if i + 2 = n then 0 else if i + 1 = n then 1 else i + 2 := by
  unfold Ro
  split
  · rw [show (i : Int) + 2 = n by omega, Int.emod_self]; rfl
  · split
    · rw [show (i : Int) + 2 = 1 + n by omega, Int.add_emod_right, Int.emod_eq_of_lt (by omega) (by omega)]; rfl
    · rw [Int.emod_eq_of_lt (by omega) (by omega)]; omega
theorem SK {P : Nat -> Nat -> Int} {n j : Nat} (hn : 3 <= n) (hp : jG P n) (hj : j < n) : trJ P n j = trI P n (BO n ((j : Int) - 1)) := by
  have e0 := J7 hj
  have hi : BO n ((j : Int) - 1) < n := by rw [e0]; split <;> omega
  have e1 : nx n (BO n ((j : Int) - 1)) = j := by rw [Js hi, e0]; split <;> (split <;> omega)
  have e2 : Ro n (BO n ((j : Int) - 1)) = nx n j := by
    rw [Xx hn hi, Js hj, e0]; repeat' split
    all_goals omega
  unfold trJ trI tvV
  rw [e1, e2]
  have e3 : BO n ((j : Int) + 1) = nx n j := rfl
  rw [e3, hp _ hi, hp _ hj, hp _ (qg (n := n) (i := j) (by omega))]; rfl
theorem ahY {n i : Nat} (hi : i < n) : BO n (((nx n i : Nat) : Int) - 1) = i := by
  have h := qg (n := n) (i := i) (by omega)
  rw [J7 h, Js hi]; repeat' split
  all_goals omega
def ahR (P : Nat -> Nat -> Int) (i : Nat) : Prop := 0 < i -> R9 (P 0 0) (P 0 1) (P i 0) (P i 1) < 0
theorem aen {P : Nat -> Nat -> Int} {n i j : Nat} (hn : 3 <= (n : Int) /\ (n : Int) <= 24) (haj : ∀ j', j' < j -> dJ (P j' 0) (P j' 1) = true) (hj : (n : Int) <= j) (hi : (i : Int) < n) (h : ((i : Int) > 0 /\ R9 (P 0 0) (P 0 1) (P i 0) (P i 1) >= 0) \/ trJ P n i = 0) : false = tQ n P := by
  rcases h with h | h
  · exact Tx (decide_eq_false ((Mc _ _ _ _).1 h.2)) h.1 hi
  · rw [SK (by omega) (fun k hk => haj k (by omega)) (by omega)] at h
    refine Ve h ?_
    have := J7 (n := n) (i := i) (by omega)
    rw [this]; split <;> omega
theorem abz {P : Nat -> Nat -> Int} {n i j : Nat} (hn : 3 <= (n : Int) /\ (n : Int) <= 24) (haj : ∀ j', j' < j -> dJ (P j' 0) (P j' 1) = true) (hj : (n : Int) <= j) (hai : ∀ i', i' < i -> ahR P i' /\ trJ P n i' ≠ 0) (hi : (n : Int) <= i) : (Gx P n && decide (Pj P n n > 0)) = tQ n P := by
  have hp : jG P n := fun k hk => haj k (by omega)
  refine ZY (i := n) (j := n) (by omega) (by omega) (by omega) (fun k hk => ⟨hp k hk, fun h0 => ?_⟩) (fun k hk => ?_)
  · have h1 := (hai k (by omega)).1 h0
    have h2 := Mc (P 0 0) (P 0 1) (P k 0) (P k 1)
    unfold ltI
    exact Classical.byContradiction fun g => by have := h2.2 g; omega
  · have hx := qg (n := n) (i := k) (by omega)
    have h1 := (hai (nx n k) (by omega)).2
    rw [SK (by omega) hp hx, ahY hk] at h1
    exact h1
theorem afR (x y : Int) : au Tryz.prog 159 [.agg [.g (.int .i64 (x)), .g (.int .i64 (y))]] (.t (.one (.g (.bool (!dJ x y))))) := by
  refine ah Tryz.func159 rfl (by rw [Tryz.ntmps159]; simp) ?_
  simp only [Tryz.ntmps159, zM, PT.tv, ak, Nat.zero_add, Nat.reduceAdd]
  repeat' (first
 | ((with_reducible show AW _ _ _ _); first
 | (with_reducible first | refine aS (fun K hK => ?_) | refine aT ?_)
 | (first
 | (with_reducible first | refine aP 0 [0] ?_ | refine aP 1 [1] ?_)))
 | (((with_reducible refine Need.mk ?_)); focus (exact True.intro))
 | (with_reducible refine aA ?_)
 | ((with_reducible show aN _ _ _ _ _ _ _ _ _ _); first
 | (refine aj (k := 140) jy (xI _ _) ?_ ?_))
 | ((fail_if_success (with_reducible show AW _ _ _ _)); simp (maxSteps := 2000000) only [go_sem, reduceIte, reduceCtorEq, xA, xL, xD, xE, xM, xS, xB, Tryz.f159])
 | ((with_reducible refine hK _ ?_); clear hK K))
theorem agB (n : Nat) (P : Nat -> Nat -> Int) (hn : n <= 9223372036854775807) : au Tryz.prog 142 [.one (.lst 2 n (bX P))] (.t (.one (.g (.bool (tQ n P))))) := by
  refine ah Tryz.func142 rfl (by rw [Tryz.ntmps142]; simp) ?_
  simp only [Tryz.ntmps142, zM, PT.tv, ak, Nat.zero_add, Nat.reduceAdd]
  repeat' (first
 | ((with_reducible show AW _ _ _ _); first
 | (with_reducible first | refine aS (fun K hK => ?_) | refine aI ?_ | refine aX ?_ | refine aT ?_ | refine aC ?_ | refine aB ?_)
 | (first
 | (with_reducible first | refine aP 0 [0,1] ?_ | refine aP (ops := #[⟨some 3, _, _, _, _, _⟩]) 1 [0] ?_ | refine aP (ops := #[⟨some 5, _, _, _, _, _⟩, _, _, _, _]) 1 [0,1] ?_ | refine aP (ops := #[⟨some 6, _, _, _, _, _⟩, _, _]) 1 [0,1] ?_ | refine aP (ops := #[⟨some 6, _, _, _, _, _⟩, _, _, _, _, _, _, _, _, _, _, _, _]) 2 [0,3] ?_ | refine aP (ops := #[⟨some 9, _, _, _, _, _⟩]) 2 [0,1,7,8] ?_ | refine aP (ops := #[⟨some 2, _, _, _, _, _⟩]) 3 [] ?_ | refine aP (ops := #[⟨some 10, _, _, _, _, _⟩, _]) 3 [0,1,7,8] ?_ | refine aP (ops := #[⟨some 19, _, _, _, _, _⟩, _]) 4 [0] ?_ | refine aP (ops := #[⟨some 11, _, _, _, _, _⟩, _, _, _, _, _]) 4 [0,1,5,7,8] ?_ | refine aP (ops := #[⟨some 20, _, _, _, _, _⟩, _, _]) 5 [4] ?_ | refine aP (ops := #[⟨some 17, _, _, _, _, _⟩, _]) 5 [5] ?_ | refine aP (ops := #[⟨some 23, _, _, _, _, _⟩]) 6 [4,21,22] ?_ | refine aP (ops := #[⟨some 18, _, _, _, _, _⟩, _]) 6 [0,1,7,8] ?_ | refine aP (ops := #[⟨some 24, _, _, _, _, _⟩, _]) 7 [4,21,22] ?_ | refine aP (ops := #[⟨some 4, _, _, _, _, _⟩]) 7 [] ?_)
 | ((with_reducible refine aR (c := Code.region 8 _ true) [4,5,21,22] ?_); (with_reducible refine aD ?_ ?_ ?_ ?_); (focus kernel_rfl); (focus kernel_rfl); (focus kernel_rfl))
 | (with_reducible first | refine aP 9 [] ?_ | refine aP 10 [4,21,22] ?_ | refine aP 11 [4] ?_))
 | ((with_reducible show AW _ (Code.loop _) _ _); first
 | ((with_reducible refine aL (c := (Code.seq (Code.region 2 _ _) _)) (ι := Nat) [0,1,7] (fun j => [(8, iA .i64 (j : Int))]) (fun j => []) (fun j => j <= n /\ (∀ j', j' < j -> dJ (P j' 0) (P j' 1) = true)) (fun j => n - j) 0 ?lg2 ?l12 ?l22 ?li2 ?lr2); (case' lg2 => rintro j _); (case' li2 => try (exact ⟨Nat.zero_le _, fun i hi => absurd hi (Nat.not_lt_zero _)⟩)); (case' lr2 => rintro j ⟨hj, haj⟩ KR hR2; simp only [bf, bN, hset, lk, if_true, if_false, xE, reduceIte, zN]))
 | ((with_reducible refine aL (c := (Code.seq (Code.region 6 _ _) _)) (ι := Nat) [4,21] (fun i => [(22, iA .i64 (i : Int))]) (fun i => []) (fun i => i <= n /\ (∀ i', i' < i -> ahR P i' /\ trJ P n i' ≠ 0)) (fun i => n - i) 0 ?lg6 ?l16 ?l26 ?li6 ?lr6); (case' lg6 => rintro i _); (case' li6 => try (exact ⟨Nat.zero_le _, fun i hi => absurd hi (Nat.not_lt_zero _)⟩)); (case' lr6 => rintro i ⟨hi, hai⟩ KR hR6; simp only [bf, bN, hset, lk, if_true, if_false, xE, reduceIte, zN]))))
 | ((first | (with_reducible refine And.intro ?_ ?_) | (with_reducible refine Need.mk ?_)); focus (first | exact True.intro | omega | (intro _; (with_reducible assumption)) | (intros; (repeat' (first | omega | (with_reducible refine And.intro ?_ ?_))); done) | (simp; done) | (simp; omega)))
 | (with_reducible refine aA ?_)
 | ((with_reducible show aY _ _ _ _ _ _); first
 | ((with_reducible refine aH ?_ ?_) <;> (intro hc; (try simp only [zB, zC, reduceCtorEq] at hc); (try (exfalso; omega)))))
 | ((with_reducible refine And.intro ?_ ?_); focus ((with_reducible show fB _ _ _ = true); kernel_rfl))
 | ((with_reducible show aN _ _ _ _ _ _ _ _ _ _); first
 | (refine aj (k := 159) Rj (afR _ _) ?_ ?_)
 | (refine aj (k := 164) Hl (Tt n P (by omega)) ?_ ?_)
 | ((refine bY (k := 160) Tryz.func160 rfl Jp (by rw [Tryz.ntmps160]; simp) ?_ ?_ (fun K hK => ?_)); (focus ((simp; omega))); (focus ((simp [iM]; done))); simp only [Tryz.ntmps160, List.map_cons, List.map_nil, List.nil_append, List.cons_append, List.append_nil, LV.tv, ak, Nat.zero_add, Nat.reduceAdd])
 | ((refine bY (k := 188) Tryz.func188 rfl Iq (by rw [Tryz.ntmps188]; simp) ?_ ?_ (fun K hK => ?_)); (focus (exact True.intro)); (focus ((simp [iM]; done))); simp only [Tryz.ntmps188, List.map_cons, List.map_nil, List.nil_append, List.cons_append, List.append_nil, LV.tv, ak, Nat.zero_add, Nat.reduceAdd]))
 | ((with_reducible show jT _ _ _ _ _ _ _ _ _ _ _ _ _); first
 | (refine fZ (k := 161) IG (fun hg => X7 _ _ _ _) ?_ ?_)
 | (refine fZ (k := 162) FK (fun hg => V3 _ _ _ _ _ _) ?_ ?_)
 | (refine fZ (k := 163) uP (fun hg => AB n P _ (by omega) (by omega)) ?_ ?_))
 | ((with_reducible show bK _ _ _ _ _ _ _ _ _ _); first
 | (refine aQ (k := 165) Gl (fun hg => VJ n P (by omega) (fun k hk => haj k (by omega))) ?_ ?_)
 | ((refine eO (k := 160) ?_ ?_) <;> (intro hc; (try simp only [zB, zC, reduceCtorEq] at hc); (try (exfalso; contradiction)))))
 | ((with_reducible refine hR2 _ (j + 1) ?_); (try clear hR2 KR))
 | ((with_reducible refine hR6 _ (i + 1) ?_); (try clear hR6 KR))
 | ((with_reducible refine Told.mk ?_); simp only [go_sem, reduceIte, reduceCtorEq, xA, xL, xD, xE, xM, xS, xB, bX] <;> (first | (((try simp (disch := omega) only [aJ, Int.natCast_add, Int.cast_ofNat_Int, and_true, true_and, and_self]); (repeat' (first | omega | (with_reducible refine And.intro ?_ ?_) | (exact all_succ (by assumption) (by assumption)) )); done)) | (((try simp (disch := omega) only [aJ, Int.natCast_add, Int.cast_ofNat_Int, and_true, true_and, and_self]); (repeat' (first | omega | (with_reducible refine And.intro ?_ ?_) | ((exact all_succ (by assumption) ⟨fun h0 => by omega, by unfold trJ; exact hc.2⟩)))); done))))
 | ((fail_if_success (with_reducible show AW _ _ _ _)); simp (maxSteps := 2000000) only [go_sem, reduceIte, reduceCtorEq, xA, xL, xD, xE, xM, xS, xB, Tryz.f142, Tryz.f160, Tryz.f188, bX])
 | ((fail_if_success (with_reducible show AW _ _ _ _)); simp (disch := omega) only [aJ, dG, dH])
 | ((with_reducible refine hK _ ?_); clear hK K)
 | (with_reducible apply_assumption -exfalso only [*]))
  all_goals (first | exact Vk (by assumption) | exact Tq (by assumption) (by assumption) | exact aen (by assumption) haj (by assumption) (by assumption) hc | exact abz (by assumption) haj (by assumption) hai hc)
end Go.Proofs.YtmnejmpjmniiiaaGreatDoor
set_option maxRecDepth 100000
set_option maxHeartbeats 4000000
namespace Go.Proofs.YtmnejmpjmniiiaaGreatDoor
open Go.RowKit Go.Sea
open Nat renaming reduceAdd -> xA, reduceLT -> xL, reduceLeDiff -> xD, reduceEqDiff -> xE, reduceMul -> xM, reduceSub -> xS, reduceBEq -> xB
theorem adi : Xq Tryz.prog 151 = false := by kernel_rfl
theorem ag3 : Xq Tryz.prog 62 = false := by kernel_rfl
theorem adt : ZN Tryz.prog 151 = some (true, [.int .i64, .int .i64, .int .i64, .int .i64, .int .i64, .int .i64]) := by kernel_rfl
theorem ag6 : ZN Tryz.prog 62 = some (true, [.int .i64, .int .i64]) := by kernel_rfl
attribute [go_sem] adi ag3 adt ag6
def eqI (w : Nat) (P Q : Nat -> Nat -> Int) (i : Nat) : Prop := ∀ o, o < w -> P i o = Q i o
def zy (w n m : Nat) (P Q : Nat -> Nat -> Int) : Bool := decide (n = m /\ ∀ i, i < n -> ∀ o, o < w -> P i o = Q i o)
theorem EG {w n m : Nat} {P Q : Nat -> Nat -> Int} (h : (n : Int) ≠ m) : false = zy w n m P Q := (decide_eq_false fun g => by omega).symm
theorem MP {w n m i : Nat} {P Q : Nat -> Nat -> Int} (h : (n : Int) = m) (hi : (n : Int) <= i) (g : ∀ i', i' < i -> eqI w P Q i') : true = zy w n m P Q := (decide_eq_true ⟨by omega, fun k hk => g k (by omega)⟩).symm
theorem acF (n m : Nat) (P Q : Nat -> Nat -> Int) (hn : n <= 9223372036854775807) (hm : m <= 9223372036854775807) : au Tryz.prog 200 [.one (.lst 2 n (bX P)), .one (.lst 2 m (bX Q))] (.t (.one (.g (.bool (zy 2 n m P Q))))) := by
  refine ah Tryz.func200 rfl (by rw [Tryz.ntmps200]; simp) ?_
  simp only [Tryz.ntmps200, zM, PT.tv, ak, Nat.zero_add, Nat.reduceAdd]
  repeat' (first
 | ((with_reducible show AW _ _ _ _); first
 | (with_reducible first | refine aS (fun K hK => ?_) | refine aI ?_ | refine aX ?_ | refine aT ?_ | refine aC ?_ | refine aB ?_)
 | (first
 | (with_reducible first | refine aP 0 [0,1] ?_ | refine aP 1 [0,1] ?_ | refine aP 2 [] ?_ | refine aP 3 [0,1] ?_ | refine aP 4 [0,1,12,13] ?_ | refine aP 5 [0,1,12,13] ?_)
 | ((with_reducible refine aR (c := Code.region 6 _ true) [0,1,5,12,13] ?_); (with_reducible refine aD ?_ ?_ ?_ ?_); (focus kernel_rfl); (focus kernel_rfl); (focus kernel_rfl))
 | (with_reducible first | refine aP 7 [] ?_ | refine aP 8 [0,1,12,13] ?_ | refine aP 9 [] ?_))
 | ((with_reducible show AW _ (Code.loop _) _ _); first
 | ((with_reducible refine aL (c := (Code.seq (Code.region 4 _ _) _)) (ι := Nat) [0,1,12] (fun i => [(13, iA .i64 (i : Int))]) (fun i => []) (fun i => i <= n /\ (∀ i', i' < i -> eqI 2 P Q i')) (fun i => n - i) 0 ?lg4 ?l14 ?l24 ?li4 ?lr4); (case' lg4 => rintro i _); (case' li4 => try (exact ⟨Nat.zero_le _, fun i hi => absurd hi (Nat.not_lt_zero _)⟩)); (case' lr4 => rintro i ⟨hi, hai⟩ KR hR4; simp only [bf, bN, hset, lk, if_true, if_false, xE, reduceIte, zN, Go.Sea.ng]))))
 | (((with_reducible refine And.intro ?_ ?_)); focus (omega))
 | (with_reducible refine aA ?_)
 | ((with_reducible show aY _ _ _ _ _ _); first
 | ((with_reducible refine aH ?_ ?_) <;> (intro hc; (try simp only [zB, zC, reduceCtorEq] at hc); (try (exfalso; contradiction)))))
 | ((with_reducible refine And.intro ?_ ?_); focus ((with_reducible show fB _ _ _ = true); kernel_rfl))
 | ((with_reducible refine hR4 _ (i + 1) ?_); (try clear hR4 KR))
 | ((with_reducible refine Told.mk ?_); simp only [go_sem, reduceIte, reduceCtorEq, xA, xL, xD, xE, xM, xS, xB, bX, Go.Sea.ng] <;> ((((try simp (disch := omega) only [aJ, Int.natCast_add, Int.cast_ofNat_Int, and_true, true_and, and_self]); (repeat' (first | omega | (with_reducible refine And.intro ?_ ?_) | ((exact all_succ (by assumption) (by (intro o ho; rcases o with _ | _ | o <;> first | omega | (simp_all; done))))))); done))))
 | ((fail_if_success (with_reducible show AW _ _ _ _)); simp (maxSteps := 2000000) only [go_sem, reduceIte, reduceCtorEq, xA, xL, xD, xE, xM, xS, xB, Tryz.f200, bX, Go.Sea.ng])
 | ((with_reducible refine hK _ ?_); clear hK K)
 | (with_reducible apply_assumption -exfalso only [*]))
  all_goals (first | exact EG (by omega) | exact MP (by omega) (by omega) hai | (refine (decide_eq_false fun g => ?_).symm; have g2 := g.2 i (by omega); have r0 := g2 0 (by omega); have r1 := g2 1 (by omega); simp_all; done))
theorem Yt (n m : Nat) (P Q : Nat -> Nat -> Int) (hn : n <= 9223372036854775807) (hm : m <= 9223372036854775807) : au Tryz.prog 78 [.one (.lst 2 n (bX P)), .one (.lst 2 m (bX Q))] (.t (.one (.g (.bool (zy 2 n m P Q))))) := by
  refine ah Tryz.func78 rfl (by rw [Tryz.ntmps78]; simp) ?_
  simp only [Tryz.ntmps78, zM, PT.tv, ak, Nat.zero_add, Nat.reduceAdd]
  repeat' (first
 | ((with_reducible show AW _ _ _ _); first
 | (with_reducible first | refine aS (fun K hK => ?_) | refine aI ?_ | refine aX ?_ | refine aT ?_ | refine aC ?_ | refine aB ?_)
 | (first
 | (with_reducible first | refine aP 0 [0,1] ?_ | refine aP 1 [0,1] ?_ | refine aP 2 [] ?_ | refine aP 3 [0,1] ?_ | refine aP 4 [0,1,5] ?_ | refine aP 5 [0,1,5] ?_)
 | ((with_reducible refine aR (c := Code.region 6 _ true) [0,1,5] ?_); (with_reducible refine aD ?_ ?_ ?_ ?_); (focus kernel_rfl); (focus kernel_rfl); (focus kernel_rfl))
 | (with_reducible first | refine aP 7 [] ?_ | refine aP 8 [] ?_))
 | ((with_reducible show AW _ (Code.loop _) _ _); first
 | ((with_reducible refine aL (c := (Code.seq (Code.seq (Code.region 4 _ _) _) _)) (ι := Nat) [0,1] (fun i => [(5, iA .i64 (i : Int))]) (fun i => []) (fun i => i <= n /\ (∀ i', i' < i -> eqI 2 P Q i')) (fun i => n - i) 0 ?lg4 ?l14 ?l24 ?li4 ?lr4); (case' lg4 => rintro i _); (case' li4 => try (exact ⟨Nat.zero_le _, fun i hi => absurd hi (Nat.not_lt_zero _)⟩)); (case' lr4 => rintro i ⟨hi, hai⟩ KR hR4; simp only [bf, bN, hset, lk, if_true, if_false, xE, reduceIte, zN, Go.Sea.ng]))))
 | (((with_reducible refine And.intro ?_ ?_)); focus (omega))
 | (with_reducible refine aA ?_)
 | ((with_reducible show aY _ _ _ _ _ _); first
 | ((with_reducible refine aH ?_ ?_) <;> (intro hc; (try simp only [zB, zC, reduceCtorEq] at hc); (try (exfalso; contradiction)))))
 | ((with_reducible refine And.intro ?_ ?_); focus ((with_reducible show fB _ _ _ = true); kernel_rfl))
 | ((with_reducible refine hR4 _ (i + 1) ?_); (try clear hR4 KR))
 | ((with_reducible refine Told.mk ?_); simp only [go_sem, reduceIte, reduceCtorEq, xA, xL, xD, xE, xM, xS, xB, bX, Go.Sea.ng] <;> ((((try simp (disch := omega) only [aJ, Int.natCast_add, Int.cast_ofNat_Int, and_true, true_and, and_self]); (repeat' (first | omega | (with_reducible refine And.intro ?_ ?_) | ((exact all_succ (by assumption) (by (intro o ho; rcases o with _ | _ | o <;> first | omega | (simp_all; done))))))); done))))
 | ((fail_if_success (with_reducible show AW _ _ _ _)); simp (maxSteps := 2000000) only [go_sem, reduceIte, reduceCtorEq, xA, xL, xD, xE, xM, xS, xB, Tryz.f78, bX, Go.Sea.ng])
 | ((with_reducible refine hK _ ?_); clear hK K)
 | (with_reducible apply_assumption -exfalso only [*]))
  all_goals (first | exact EG (by omega) | exact MP (by omega) (by omega) hai | (refine (decide_eq_false fun g => ?_).symm; have g2 := g.2 i (by omega); have r0 := g2 0 (by omega); have r1 := g2 1 (by omega); simp_all; done))
theorem Vv (n m : Nat) (P Q : Nat -> Nat -> Int) (hn : n <= 9223372036854775807) (hm : m <= 9223372036854775807) : au Tryz.prog 201 [.one (.lst 6 n (bX P)), .one (.lst 6 m (bX Q))] (.t (.one (.g (.bool (zy 6 n m P Q))))) := by
  refine ah Tryz.func201 rfl (by rw [Tryz.ntmps201]; simp) ?_
  simp only [Tryz.ntmps201, zM, PT.tv, ak, Nat.zero_add, Nat.reduceAdd]
  repeat' (first
 | ((with_reducible show AW _ _ _ _); first
 | (with_reducible first | refine aS (fun K hK => ?_) | refine aI ?_ | refine aX ?_ | refine aT ?_ | refine aC ?_ | refine aB ?_)
 | (first
 | (with_reducible first | refine aP 0 [0,1] ?_ | refine aP 1 [0,1] ?_ | refine aP 2 [] ?_ | refine aP 3 [0,1] ?_ | refine aP 4 [0,1,12,13] ?_ | refine aP 5 [0,1,12,13] ?_)
 | ((with_reducible refine aR (c := Code.region 6 _ true) [0,1,5,12,13] ?_); (with_reducible refine aD ?_ ?_ ?_ ?_); (focus kernel_rfl); (focus kernel_rfl); (focus kernel_rfl))
 | (with_reducible first | refine aP 7 [] ?_ | refine aP 8 [0,1,12,13] ?_ | refine aP 9 [] ?_))
 | ((with_reducible show AW _ (Code.loop _) _ _); first
 | ((with_reducible refine aL (c := (Code.seq (Code.region 4 _ _) _)) (ι := Nat) [0,1,12] (fun i => [(13, iA .i64 (i : Int))]) (fun i => []) (fun i => i <= n /\ (∀ i', i' < i -> eqI 6 P Q i')) (fun i => n - i) 0 ?lg4 ?l14 ?l24 ?li4 ?lr4); (case' lg4 => rintro i _); (case' li4 => try (exact ⟨Nat.zero_le _, fun i hi => absurd hi (Nat.not_lt_zero _)⟩)); (case' lr4 => rintro i ⟨hi, hai⟩ KR hR4; simp only [bf, bN, hset, lk, if_true, if_false, xE, reduceIte, zN, Go.Sea.ng]))))
 | (((with_reducible refine And.intro ?_ ?_)); focus (omega))
 | (with_reducible refine aA ?_)
 | ((with_reducible show aY _ _ _ _ _ _); first
 | ((with_reducible refine aH ?_ ?_) <;> (intro hc; (try simp only [zB, zC, reduceCtorEq] at hc); (try (exfalso; contradiction)))))
 | ((with_reducible refine And.intro ?_ ?_); focus ((with_reducible show fB _ _ _ = true); kernel_rfl))
 | ((with_reducible refine hR4 _ (i + 1) ?_); (try clear hR4 KR))
 | ((with_reducible refine Told.mk ?_); simp only [go_sem, reduceIte, reduceCtorEq, xA, xL, xD, xE, xM, xS, xB, bX, Go.Sea.ng] <;> ((((try simp (disch := omega) only [aJ, Int.natCast_add, Int.cast_ofNat_Int, and_true, true_and, and_self]); (repeat' (first | omega | (with_reducible refine And.intro ?_ ?_) | ((exact all_succ (by assumption) (by (intro o ho; rcases o with _ | _ | _ | _ | _ | _ | o <;> first | omega | (simp_all; done))))))); done))))
 | ((fail_if_success (with_reducible show AW _ _ _ _)); simp (maxSteps := 2000000) only [go_sem, reduceIte, reduceCtorEq, xA, xL, xD, xE, xM, xS, xB, Tryz.f201, bX, Go.Sea.ng])
 | ((with_reducible refine hK _ ?_); clear hK K)
 | (with_reducible apply_assumption -exfalso only [*]))
  all_goals (first | exact EG (by omega) | exact MP (by omega) (by omega) hai | (refine (decide_eq_false fun g => ?_).symm; have g2 := g.2 i (by omega); have r0 := g2 0 (by omega); have r1 := g2 1 (by omega); have r2 := g2 2 (by omega); have r3 := g2 3 (by omega); have r4 := g2 4 (by omega); have r5 := g2 5 (by omega); simp_all; done))
theorem TI (n m : Nat) (P Q : Nat -> Nat -> Int) (hn : n <= 9223372036854775807) (hm : m <= 9223372036854775807) : au Tryz.prog 79 [.one (.lst 6 n (bX P)), .one (.lst 6 m (bX Q))] (.t (.one (.g (.bool (zy 6 n m P Q))))) := by
  refine ah Tryz.func79 rfl (by rw [Tryz.ntmps79]; simp) ?_
  simp only [Tryz.ntmps79, zM, PT.tv, ak, Nat.zero_add, Nat.reduceAdd]
  repeat' (first
 | ((with_reducible show AW _ _ _ _); first
 | (with_reducible first | refine aS (fun K hK => ?_) | refine aI ?_ | refine aX ?_ | refine aT ?_ | refine aC ?_ | refine aB ?_)
 | (first
 | (with_reducible first | refine aP 0 [0,1] ?_ | refine aP 1 [0,1] ?_ | refine aP 2 [] ?_ | refine aP 3 [0,1] ?_ | refine aP 4 [0,1,5] ?_ | refine aP 5 [0,1,5] ?_)
 | ((with_reducible refine aR (c := Code.region 6 _ true) [0,1,5] ?_); (with_reducible refine aD ?_ ?_ ?_ ?_); (focus kernel_rfl); (focus kernel_rfl); (focus kernel_rfl))
 | (with_reducible first | refine aP 7 [] ?_ | refine aP 8 [] ?_))
 | ((with_reducible show AW _ (Code.loop _) _ _); first
 | ((with_reducible refine aL (c := (Code.seq (Code.seq (Code.region 4 _ _) _) _)) (ι := Nat) [0,1] (fun i => [(5, iA .i64 (i : Int))]) (fun i => []) (fun i => i <= n /\ (∀ i', i' < i -> eqI 6 P Q i')) (fun i => n - i) 0 ?lg4 ?l14 ?l24 ?li4 ?lr4); (case' lg4 => rintro i _); (case' li4 => try (exact ⟨Nat.zero_le _, fun i hi => absurd hi (Nat.not_lt_zero _)⟩)); (case' lr4 => rintro i ⟨hi, hai⟩ KR hR4; simp only [bf, bN, hset, lk, if_true, if_false, xE, reduceIte, zN, Go.Sea.ng]))))
 | (((with_reducible refine And.intro ?_ ?_)); focus (omega))
 | (with_reducible refine aA ?_)
 | ((with_reducible show aY _ _ _ _ _ _); first
 | ((with_reducible refine aH ?_ ?_) <;> (intro hc; (try simp only [zB, zC, reduceCtorEq] at hc); (try (exfalso; contradiction)))))
 | ((with_reducible refine And.intro ?_ ?_); focus ((with_reducible show fB _ _ _ = true); kernel_rfl))
 | ((with_reducible refine hR4 _ (i + 1) ?_); (try clear hR4 KR))
 | ((with_reducible refine Told.mk ?_); simp only [go_sem, reduceIte, reduceCtorEq, xA, xL, xD, xE, xM, xS, xB, bX, Go.Sea.ng] <;> ((((try simp (disch := omega) only [aJ, Int.natCast_add, Int.cast_ofNat_Int, and_true, true_and, and_self]); (repeat' (first | omega | (with_reducible refine And.intro ?_ ?_) | ((exact all_succ (by assumption) (by (intro o ho; rcases o with _ | _ | _ | _ | _ | _ | o <;> first | omega | (simp_all; done))))))); done))))
 | ((fail_if_success (with_reducible show AW _ _ _ _)); simp (maxSteps := 2000000) only [go_sem, reduceIte, reduceCtorEq, xA, xL, xD, xE, xM, xS, xB, Tryz.f79, bX, Go.Sea.ng])
 | ((with_reducible refine hK _ ?_); clear hK K)
 | (with_reducible apply_assumption -exfalso only [*]))
  all_goals (first | exact EG (by omega) | exact MP (by omega) (by omega) hai | (refine (decide_eq_false fun g => ?_).symm; have g2 := g.2 i (by omega); have r0 := g2 0 (by omega); have r1 := g2 1 (by omega); have r2 := g2 2 (by omega); have r3 := g2 3 (by omega); have r4 := g2 4 (by omega); have r5 := g2 5 (by omega); simp_all; done))
end Go.Proofs.YtmnejmpjmniiiaaGreatDoor
set_option maxRecDepth 100000
set_option maxHeartbeats 4000000
namespace Go.Proofs.YtmnejmpjmniiiaaGreatDoor
open Go.RowKit Go.Sea
open Nat renaming reduceAdd -> xA, reduceLT -> xL, reduceLeDiff -> xD, reduceEqDiff -> xE, reduceMul -> xM, reduceSub -> xS, reduceBEq -> xB
theorem Jo : aM Tryz.prog 200 = true := by kernel_rfl
theorem IJ : aM Tryz.prog 201 = true := by kernel_rfl
theorem Od : aM Tryz.prog 78 = true := by kernel_rfl
theorem OD : aM Tryz.prog 79 = true := by kernel_rfl
theorem Gq : aM Tryz.prog 141 = true := by kernel_rfl
theorem F9 : aM Tryz.prog 142 = true := by kernel_rfl
theorem G7 : aM Tryz.prog 143 = true := by kernel_rfl
theorem Hz : aM Tryz.prog 127 = true := by kernel_rfl
theorem qO : aM Tryz.prog 129 = true := by kernel_rfl
theorem pX : aM Tryz.prog 130 = true := by kernel_rfl
theorem GR : aM Tryz.prog 131 = true := by kernel_rfl
theorem He : aM Tryz.prog 132 = true := by kernel_rfl
theorem Wu : dB Tryz.prog 66 0 = some 0 := by kernel_rfl
theorem Xm : dB Tryz.prog 66 1 = some 1 := by kernel_rfl
theorem VT : dB Tryz.prog 66 2 = some 2 := by kernel_rfl
theorem Yw : dB Tryz.prog 66 3 = some 4 := by kernel_rfl
theorem YA : dB Tryz.prog 66 4 = some 5 := by kernel_rfl
theorem VH : dB Tryz.prog 66 5 = some 6 := by kernel_rfl
theorem WO : dB Tryz.prog 66 6 = some 7 := by kernel_rfl
theorem Za : dB Tryz.prog 66 7 = some 8 := by kernel_rfl
theorem ahk : mU Tryz.prog 63 = some (false, 1) := by kernel_rfl
theorem af8 : mU Tryz.prog 64 = some (false, 1) := by kernel_rfl
attribute [go_sem] Jo IJ Od OD Gq F9 G7 Hz qO pX GR He Wu Xm VT Yw YA VH WO Za ahk af8
structure aF where
  id : Int
  kd : Int
  x : Int
  y : Int
  r : Int
  n : Nat
  P : Nat -> Nat -> Int
  d : Int
  s : Int
  m : Nat
  S : Nat -> Nat -> Int
structure aF.Ok (f : aF) : Prop where
  n : f.n <= 9223372036854775807
  m : f.m <= 9223372036854775807
def lT (x y r : Int) : Bool := dJ (x - r) (y - r) && dJ (x + r) (y + r)
def BD (id kd x y r : Int) (n : Nat) (d s : Int) (m : Nat) (pt rm po se : Bool) : Prop :=
  (1 <= id /\ id <= 100000) /\ (0 <= s /\ s <= 999) /\ (0 <= d /\ d <= 100000) /\ (0 <= r /\ r <= 100000) ∧
  ((kd = 1 \/ kd = 2 \/ kd = 5) /\ pt = true /\ rm = true /\ n = 0 /\ m = 0 \/ (kd = 3 \/ kd = 6) /\ (kd = 6 -> d = 0) /\ po = true /\ x = 0 /\ y = 0 /\ r = 0 /\ m = 0 \/ kd = 4 /\ pt = true /\ se = true /\ r = 0 /\ d = 0 /\ n = 0)
instance (id kd x y r : Int) (n : Nat) (d s : Int) (m : Nat) (pt rm po se : Bool) : Decidable (BD id kd x y r n d s m pt rm po se) := by unfold BD; infer_instance
def fI (f : aF) : Bool := decide (BD f.id f.kd f.x f.y f.r f.n f.d f.s f.m (dJ f.x f.y) (lT f.x f.y f.r) (tQ f.n f.P) (nM f.m f.S))
def tF (f g : aF) : Bool := decide (f.id = g.id /\ f.kd = g.kd /\ f.x = g.x /\ f.y = g.y /\ f.r = g.r /\ f.d = g.d /\ f.s = g.s) && (zy 2 f.n g.n f.P g.P && zy 6 f.m g.m f.S g.S)
theorem wS (x y r : Int) : lT x y r = true ↔ (-1000000 <= x - r /\ x - r <= 1000000 /\ -1000000 <= y - r /\ y - r <= 1000000) /\ (-1000000 <= x + r /\ x + r <= 1000000 /\ -1000000 <= y + r /\ y + r <= 1000000) := by
  unfold lT dJ; simp only [Bool.and_eq_true, decide_eq_true_eq, and_assoc]
theorem kL (x y : Int) : dJ x y = true ↔ (-1000000 <= x /\ x <= 1000000 /\ -1000000 <= y /\ y <= 1000000) := by
  unfold dJ; simp only [Bool.and_eq_true, decide_eq_true_eq, and_assoc]
theorem jq (f : aF) : fI f = true ↔ BD f.id f.kd f.x f.y f.r f.n f.d f.s f.m (dJ f.x f.y) (lT f.x f.y f.r) (tQ f.n f.P) (nM f.m f.S) := decide_eq_true_iff
def tu (f : aF) : Prop := (1 <= f.id /\ f.id <= 100000) /\ (0 <= f.s /\ f.s <= 999) /\ (0 <= f.d /\ f.d <= 100000) /\ (0 <= f.r /\ f.r <= 100000)
theorem Va {f : aF} (h : ¬ tu f) : false = fI f := (decide_eq_false fun g => h ⟨g.1, g.2.1, g.2.2.1, g.2.2.2.1⟩).symm
theorem SF {f : aF} (h : f.kd ≠ 1 /\ f.kd ≠ 2 /\ f.kd ≠ 5 /\ f.kd ≠ 6 /\ f.kd ≠ 3 /\ f.kd ≠ 4) : false = fI f := (decide_eq_false fun g => by
  rcases g.2.2.2.2 with k | k | k <;> omega).symm
theorem U7 {f : aF} (h : f.kd = 6) (hd : f.d > 0) : false = fI f := (decide_eq_false fun g => by
  rcases g.2.2.2.2 with k | k | k
  · omega
  · have := k.2.1 h; omega
  · omega).symm
theorem TS {f : aF} (hr : tu f) (hk : f.kd = 1 \/ f.kd = 2 \/ f.kd = 5) : (dJ f.x f.y && lT f.x f.y f.r && (f.n : Int) == 0 && (f.m : Int) == 0) = fI f := by
  refine Bool.eq_iff_iff.2 ?_
  rw [jq]; unfold BD; simp only [Bool.and_eq_true, beq_iff_eq]
  constructor
  · rintro ⟨⟨⟨h1, h2⟩, h3⟩, h4⟩; exact ⟨hr.1, hr.2.1, hr.2.2.1, hr.2.2.2, Or.inl ⟨hk, h1, h2, by omega, by omega⟩⟩
  · rintro ⟨_, _, _, _, h | h | h⟩
    · exact ⟨⟨⟨h.2.1, h.2.2.1⟩, by omega⟩, by omega⟩
    · omega
    · omega
theorem LD {f : aF} (hr : tu f) (hk : f.kd = 3 \/ f.kd = 6) (hd : f.kd = 6 -> f.d = 0) : (tQ f.n f.P && (f.x == 0 && f.y == 0) && f.r == 0 && (f.m : Int) == 0) = fI f := by
  refine Bool.eq_iff_iff.2 ?_
  rw [jq]; unfold BD; simp only [Bool.and_eq_true, beq_iff_eq]
  constructor
  · rintro ⟨⟨⟨h1, h2⟩, h3⟩, h4⟩; exact ⟨hr.1, hr.2.1, hr.2.2.1, hr.2.2.2, Or.inr (Or.inl ⟨hk, hd, h1, h2.1, h2.2, h3, by omega⟩)⟩
  · rintro ⟨_, _, _, _, h | h | h⟩
    · omega
    · exact ⟨⟨⟨h.2.2.1, h.2.2.2.1, h.2.2.2.2.1⟩, h.2.2.2.2.2.1⟩, by omega⟩
    · omega
theorem UZ {f : aF} (hr : tu f) (hk : f.kd = 4) : (dJ f.x f.y && nM f.m f.S && f.r == 0 && f.d == 0 && (f.n : Int) == 0) = fI f := by
  refine Bool.eq_iff_iff.2 ?_
  rw [jq]; unfold BD; simp only [Bool.and_eq_true, beq_iff_eq]
  constructor
  · rintro ⟨⟨⟨⟨h1, h2⟩, h3⟩, h4⟩, h5⟩; exact ⟨hr.1, hr.2.1, hr.2.2.1, hr.2.2.2, Or.inr (Or.inr ⟨hk, h1, h2, h3, h4, by omega⟩)⟩
  · rintro ⟨_, _, _, _, h | h | h⟩
    · omega
    · omega
    · exact ⟨⟨⟨⟨h.2.1, h.2.2.1⟩, h.2.2.2.1⟩, h.2.2.2.2.1⟩, by omega⟩
theorem V4 {f : aF} (hr : tu f) (hk : f.kd = 1 \/ f.kd = 2 \/ f.kd = 5) : (dJ f.x f.y && decide (-1000000 <= f.x - f.r /\ f.x + f.r <= 1000000) && decide (-1000000 <= f.y - f.r /\ f.y + f.r <= 1000000) && (f.n : Int) == 0 && (f.m : Int) == 0) = fI f := by
  rw [<- TS hr hk]
  have h4 := hr.2.2.2
  refine Bool.eq_iff_iff.2 ?_
  simp only [Bool.and_eq_true, decide_eq_true_eq, wS, kL, beq_iff_eq]
  omega
theorem XW {f : aF} (hr : tu f) (hk : f.kd = 3 \/ f.kd = 6) : (tQ f.n f.P && (f.x == 0 && f.y == 0) && f.r == 0 && (f.m : Int) == 0 && (f.kd == 3 || f.d == 0)) = fI f := by
  by_cases h : f.kd = 3
  · rw [<- LD hr hk (fun h' => by omega), h]; simp
  · by_cases hd : f.d = 0
    · rw [<- LD hr hk (fun _ => hd), hd]; simp
    · have := hr.2.2.1
      rw [<- U7 (f := f) (by omega) (by omega)]; simp [h, hd]
theorem X5 {f : aF} (hr : tu f) (hk : f.kd ≠ 1 /\ f.kd ≠ 2 /\ f.kd ≠ 5) (hk2 : f.kd ≠ 3 /\ f.kd ≠ 6) : (f.kd == 4 && dJ f.x f.y && nM f.m f.S && f.r == 0 && f.d == 0 && (f.n : Int) == 0) = fI f := by
  by_cases h : f.kd = 4
  · rw [<- UZ hr h, h]; simp
  · rw [<- SF (f := f) (by omega)]; simp [h]
theorem Y7 (x y r : Int) (hp : dJ x y = true) (hr : 0 <= r /\ r <= 100000) : au Tryz.prog 141 [.agg [.g (.int .i64 (x)), .g (.int .i64 (y))], .one (.g (.int .i64 r))] (.t (.one (.g (.bool (lT x y r))))) := by
  have hq := (kL _ _).1 hp
  refine ah Tryz.func141 rfl (by rw [Tryz.ntmps141]; simp) ?_
  simp only [Tryz.ntmps141, zM, PT.tv, ak, Nat.zero_add, Nat.reduceAdd]
  repeat' (first
 | ((with_reducible show AW _ _ _ _); first
 | (with_reducible first | refine aS (fun K hK => ?_) | refine aT ?_)
 | (first
 | (with_reducible first | refine aP 0 [0,1] ?_ | refine aP 1 [1,2] ?_)))
 | (((with_reducible refine Need.mk ?_)); focus (first | exact True.intro | (intro _; (with_reducible assumption))))
 | (with_reducible refine aA ?_)
 | ((with_reducible show aN _ _ _ _ _ _ _ _ _ _); first
 | (refine aj (k := 140) jy (xI _ _) ?_ ?_))
 | ((with_reducible show bK _ _ _ _ _ _ _ _ _ _); first
 | (refine aQ (k := 140) jy (fun hg => xI _ _) ?_ ?_))
 | ((fail_if_success (with_reducible show AW _ _ _ _)); simp (maxSteps := 2000000) only [go_sem, reduceIte, reduceCtorEq, xA, xL, xD, xE, xM, xS, xB, Tryz.f141])
 | ((fail_if_success (with_reducible show AW _ _ _ _)); simp (disch := omega) only [aJ, dG, dH])
 | ((with_reducible refine hK _ ?_); clear hK K))
  all_goals ((unfold lT; simp_all; done))
theorem Zd (x y r : Int) (hp : dJ x y = true) (hr : 0 <= r /\ r <= 100000) : au Tryz.prog 151 [.agg [.g (.int .i64 (x)), .g (.int .i64 (y))], .one (.g (.int .i64 r))] (.t (.one (.g (.bool (lT x y r))))) := by
  have hq := (kL _ _).1 hp
  refine ah Tryz.func151 rfl (by rw [Tryz.ntmps151]; simp) ?_
  simp only [Tryz.ntmps151, zM, PT.tv, ak, Nat.zero_add, Nat.reduceAdd]
  repeat' (first
 | ((with_reducible show AW _ _ _ _); first
 | (with_reducible first | refine aS (fun K hK => ?_) | refine aT ?_)
 | (first
 | (with_reducible first | refine aP 0 [0,1] ?_ | refine aP 1 [1,2] ?_)))
 | (((with_reducible refine Need.mk ?_)); focus (first | exact True.intro | (intro _; (with_reducible assumption))))
 | (with_reducible refine aA ?_)
 | ((with_reducible show aN _ _ _ _ _ _ _ _ _ _); first
 | (refine aj (k := 140) jy (xI _ _) ?_ ?_))
 | ((with_reducible show bK _ _ _ _ _ _ _ _ _ _); first
 | (refine aQ (k := 140) jy (fun hg => xI _ _) ?_ ?_))
 | ((fail_if_success (with_reducible show AW _ _ _ _)); simp (maxSteps := 2000000) only [go_sem, reduceIte, reduceCtorEq, xA, xL, xD, xE, xM, xS, xB, Tryz.f151])
 | ((fail_if_success (with_reducible show AW _ _ _ _)); simp (disch := omega) only [aJ, dG, dH])
 | ((with_reducible refine hK _ ?_); clear hK K))
  all_goals ((unfold lT; simp_all; done))
theorem yZ (x r : Int) (hx : -1000000 <= x /\ x <= 1000000) (hr : 0 <= r /\ r <= 100000) : au Tryz.prog 129 [.one (.g (.int .i64 x)), .one (.g (.int .i64 r))] (.t (.one (.g (.bool (decide (-1000000 <= x - r /\ x + r <= 1000000)))))) := by
  refine ah Tryz.func129 rfl (by rw [Tryz.ntmps129]; simp) ?_
  simp only [Tryz.ntmps129, zM, PT.tv, ak, Nat.zero_add, Nat.reduceAdd]
  repeat' (first
 | ((with_reducible show AW _ _ _ _); first
 | (with_reducible first | refine aS (fun K hK => ?_) | refine aT ?_)
 | (first
 | (with_reducible first | refine aP 0 [0,1] ?_ | refine aP 1 [0,1] ?_)))
 | (with_reducible refine aA ?_)
 | ((fail_if_success (with_reducible show AW _ _ _ _)); simp (maxSteps := 2000000) only [go_sem, reduceIte, reduceCtorEq, xA, xL, xD, xE, xM, xS, xB, Tryz.f129])
 | ((fail_if_success (with_reducible show AW _ _ _ _)); simp (disch := omega) only [aJ, dG, dH])
 | ((with_reducible refine hK _ ?_); clear hK K))
  all_goals ((try refine Bool.eq_iff_iff.2 ?_); (simp only [Bool.and_eq_true, Bool.or_eq_true, Bool.not_eq_true', decide_eq_true_eq, decide_eq_false_iff_not, bne_iff_ne, beq_iff_eq, ne_eq, ge_iff_le, gt_iff_lt, cond_eq_ite, iff_self, eq_self]; done))
theorem WV (k : Int) : au Tryz.prog 127 [.one (.g (.int .i64 k))] (.t (.one (.g (.bool (decide (k = 1 \/ k = 2 \/ k = 5)))))) := by
  refine ah Tryz.func127 rfl (by rw [Tryz.ntmps127]; simp) ?_
  simp only [Tryz.ntmps127, zM, PT.tv, ak, Nat.zero_add, Nat.reduceAdd]
  repeat' (first
 | ((with_reducible show AW _ _ _ _); first
 | (with_reducible first | refine aS (fun K hK => ?_) | refine aT ?_)
 | (first
 | (with_reducible first | refine aP 0 [0] ?_ | refine aP 1 [0] ?_)))
 | (((with_reducible refine And.intro ?_ ?_)); focus ((simp; done)))
 | (with_reducible refine aA ?_)
 | ((fail_if_success (with_reducible show AW _ _ _ _)); simp (maxSteps := 2000000) only [go_sem, reduceIte, reduceCtorEq, xA, xL, xD, xE, xM, xS, xB, Tryz.f127])
 | ((with_reducible refine hK _ ?_); clear hK K))
  all_goals ((try refine Bool.eq_iff_iff.2 ?_); (simp only [Bool.and_eq_true, Bool.or_eq_true, Bool.not_eq_true', decide_eq_true_eq, decide_eq_false_iff_not, bne_iff_ne, beq_iff_eq, ne_eq, ge_iff_le, gt_iff_lt, cond_eq_ite, iff_self, eq_self]; omega))
theorem u7 (k : Int) : au Tryz.prog 130 [.one (.g (.int .i64 k))] (.t (.one (.g (.bool (decide (k = 3 \/ k = 6)))))) := by
  refine ah Tryz.func130 rfl (by rw [Tryz.ntmps130]; simp) ?_
  simp only [Tryz.ntmps130, zM, PT.tv, ak, Nat.zero_add, Nat.reduceAdd]
  repeat' (first
 | ((with_reducible show AW _ _ _ _); first
 | (with_reducible first | refine aS (fun K hK => ?_) | refine aT ?_)
 | (first
 | (with_reducible first | refine aP 0 [0] ?_ | refine aP 1 [0] ?_)))
 | (((with_reducible refine And.intro ?_ ?_)); focus ((simp; done)))
 | (with_reducible refine aA ?_)
 | ((fail_if_success (with_reducible show AW _ _ _ _)); simp (maxSteps := 2000000) only [go_sem, reduceIte, reduceCtorEq, xA, xL, xD, xE, xM, xS, xB, Tryz.f130])
 | ((with_reducible refine hK _ ?_); clear hK K))
  all_goals ((try refine Bool.eq_iff_iff.2 ?_); (simp only [Bool.and_eq_true, Bool.or_eq_true, Bool.not_eq_true', decide_eq_true_eq, decide_eq_false_iff_not, bne_iff_ne, beq_iff_eq, ne_eq, ge_iff_le, gt_iff_lt, cond_eq_ite, iff_self, eq_self]; done))
theorem Rv (f : aF) (ho : f.Ok) : au Tryz.prog 115 [.agg [.g (.int .i64 (f.id)), .g (.int .i64 (f.kd)), .g (.int .i64 (f.x)), .g (.int .i64 (f.y)), .g (.int .i64 (f.r)), .lst 2 f.n (bX f.P), .g (.int .i64 (f.d)), .g (.int .i64 (f.s)), .lst 6 f.m (bX f.S)]] (.t (.one (.g (.bool (fI f))))) := by
  refine ah Tryz.func115 rfl (by rw [Tryz.ntmps115]; simp) ?_
  simp only [Tryz.ntmps115, zM, PT.tv, ak, Nat.zero_add, Nat.reduceAdd]
  repeat' (first
 | ((with_reducible show AW _ _ _ _); first
 | (with_reducible first | refine aS (fun K hK => ?_) | refine aI ?_ | refine aX ?_ | refine aT ?_ | refine aC ?_ | refine aB ?_)
 | (first
 | (with_reducible first | refine aP 0 [0] ?_ | refine aP 1 [1] ?_ | refine aP 2 [] ?_ | refine aP 3 [1] ?_ | refine aP 4 [1,42] ?_ | refine aP 5 [1,42] ?_ | refine aP 6 [1,42] ?_ | refine aP 7 [1,42] ?_ | refine aP 8 [1,42] ?_ | refine aP 9 [1,42] ?_ | refine aP 10 [1] ?_ | refine aP 11 [1] ?_ | refine aP 12 [] ?_ | refine aP 13 [1] ?_ | refine aP 14 [1] ?_ | refine aP 15 [] ?_)))
 | ((first | (with_reducible refine And.intro ?_ ?_) | (with_reducible refine Need.mk ?_)); focus (first | exact True.intro | (intro _; (with_reducible assumption)) | (simp; done)))
 | (with_reducible refine aA ?_)
 | ((with_reducible show aY _ _ _ _ _ _); first
 | ((with_reducible refine aH ?_ ?_) <;> (intro hc; (try simp only [zB, zC, reduceCtorEq] at hc); (try (exfalso; contradiction)))))
 | ((with_reducible show aN _ _ _ _ _ _ _ _ _ _); first
 | (refine aj (k := 140) jy (xI _ _) ?_ ?_)
 | (refine aj (k := 142) F9 (agB _ _ ho.n) ?_ ?_))
 | ((with_reducible show bK _ _ _ _ _ _ _ _ _ _); first
 | (refine aQ (k := 141) Gq (fun hg => Y7 _ _ _ (by assumption) (by omega)) ?_ ?_)
 | (refine aQ (k := 143) G7 (fun hg => abW _ _ (by have := ho.m; omega)) ?_ ?_))
 | ((fail_if_success (with_reducible show AW _ _ _ _)); simp (maxSteps := 2000000) only [go_sem, reduceIte, reduceCtorEq, xA, xL, xD, xE, xM, xS, xB, Tryz.f115, Go.Sea.ng])
 | ((with_reducible refine hK _ ?_); clear hK K)
 | (with_reducible apply_assumption -exfalso only [*]))
  all_goals (first | exact Va (by unfold tu; omega) | exact U7 (by omega) (by omega) | exact SF (by omega) | exact TS (by unfold tu; omega) (by omega) | exact LD (by unfold tu; omega) (by omega) (by omega) | exact UZ (by unfold tu; omega) (by omega))
theorem M5 (f : aF) (ho : f.Ok) : au Tryz.prog 104 [.agg [.g (.int .i64 (f.id)), .g (.int .i64 (f.kd)), .g (.int .i64 (f.x)), .g (.int .i64 (f.y)), .g (.int .i64 (f.r)), .lst 2 f.n (bX f.P), .g (.int .i64 (f.d)), .g (.int .i64 (f.s)), .lst 6 f.m (bX f.S)]] (.t (.one (.g (.bool (fI f))))) := by
  refine ah Tryz.func104 rfl (by rw [Tryz.ntmps104]; simp) ?_
  simp only [Tryz.ntmps104, zM, PT.tv, ak, Nat.zero_add, Nat.reduceAdd]
  repeat' (first
 | ((with_reducible show AW _ _ _ _); first
 | (with_reducible first | refine aS (fun K hK => ?_) | refine aI ?_ | refine aT ?_ | refine aC ?_)
 | (first
 | (with_reducible first | refine aP 0 [0] ?_ | refine aP 1 [1] ?_ | refine aP 2 [] ?_ | refine aP 3 [1] ?_ | refine aP 4 [1] ?_ | refine aP 5 [1] ?_ | refine aP 6 [1] ?_ | refine aP 7 [1] ?_)))
 | ((first | (with_reducible refine And.intro ?_ ?_) | (with_reducible refine Need.mk ?_)); focus (first | exact True.intro | (intro _; (with_reducible assumption)) | (simp; done) | (simp +contextual; done)))
 | (with_reducible refine aA ?_)
 | ((with_reducible show aY _ _ _ _ _ _); first
 | ((with_reducible refine aH ?_ ?_) <;> (intro hc; (try simp only [zB, zC, reduceCtorEq] at hc); (try (exfalso; contradiction)))))
 | ((with_reducible show aN _ _ _ _ _ _ _ _ _ _); first
 | (refine aj (k := 128) p8 (Ee _ _) ?_ ?_)
 | (refine aj (k := 127) Hz (WV _) ?_ ?_)
 | (refine aj (k := 130) pX (u7 _) ?_ ?_)
 | (refine aj (k := 131) GR (acO _ _ ho.n) ?_ ?_))
 | ((with_reducible show bK _ _ _ _ _ _ _ _ _ _); first
 | (refine aQ (k := 128) p8 (fun hg => Ee _ _) ?_ ?_)
 | (refine aQ (k := 129) qO (fun hg => yZ f.x _ (by have := (kL _ _).1 (by assumption); omega) (by omega)) ?_ ?_)
 | (refine aQ (k := 129) qO (fun hg => yZ f.y _ (by have h1 : dJ f.x f.y = true := (by simp only [Bool.and_eq_true] at hg; exact hg.1); have := (kL _ _).1 h1; omega) (by omega)) ?_ ?_)
 | (refine aQ (k := 132) He (fun hg => WI _ _ (by have := ho.m; omega)) ?_ ?_))
 | ((fail_if_success (with_reducible show AW _ _ _ _)); simp (maxSteps := 2000000) only [go_sem, reduceIte, reduceCtorEq, xA, xL, xD, xE, xM, xS, xB, Tryz.f104, Go.Sea.ng])
 | ((with_reducible refine hK _ ?_); clear hK K))
  all_goals (first | exact Va (by unfold tu; omega) | exact V4 (by unfold tu; omega) (by omega) | exact XW (by unfold tu; omega) (by omega) | exact X5 (by unfold tu; omega) (by omega) (by omega))
theorem Yp (f g : aF) (ho : f.Ok) (ho2 : g.Ok) : au Tryz.prog 180 [.agg [.g (.int .i64 (f.id)), .g (.int .i64 (f.kd)), .g (.int .i64 (f.x)), .g (.int .i64 (f.y)), .g (.int .i64 (f.r)), .lst 2 f.n (bX f.P), .g (.int .i64 (f.d)), .g (.int .i64 (f.s)), .lst 6 f.m (bX f.S)], .agg [.g (.int .i64 (g.id)), .g (.int .i64 (g.kd)), .g (.int .i64 (g.x)), .g (.int .i64 (g.y)), .g (.int .i64 (g.r)), .lst 2 g.n (bX g.P), .g (.int .i64 (g.d)), .g (.int .i64 (g.s)), .lst 6 g.m (bX g.S)]] (.t (.one (.g (.bool (tF f g))))) := by
  refine ah Tryz.func180 rfl (by rw [Tryz.ntmps180]; simp) ?_
  simp only [Tryz.ntmps180, zM, PT.tv, ak, Nat.zero_add, Nat.reduceAdd]
  repeat' (first
 | ((with_reducible show AW _ _ _ _); first
 | (with_reducible first | refine aS (fun K hK => ?_) | refine aT ?_)
 | (first
 | (with_reducible first | refine aP 0 [0,1] ?_ | refine aP 1 [2,3] ?_)))
 | (((with_reducible refine Need.mk ?_)); focus ((intro _; (with_reducible assumption))))
 | (with_reducible refine aA ?_)
 | ((with_reducible show bK _ _ _ _ _ _ _ _ _ _); first
 | (refine aQ (k := 200) Jo (fun hg => acF _ _ _ _ ho.n ho2.n) ?_ ?_)
 | (refine aQ (k := 201) IJ (fun hg => Vv _ _ _ _ ho.m ho2.m) ?_ ?_))
 | ((fail_if_success (with_reducible show AW _ _ _ _)); simp (maxSteps := 2000000) only [go_sem, reduceIte, reduceCtorEq, xA, xL, xD, xE, xM, xS, xB, Tryz.f180, Go.Sea.ng])
 | ((with_reducible refine hK _ ?_); clear hK K))
  all_goals ((unfold tF; refine Bool.eq_iff_iff.2 ?_; simp only [decide_eq_true_eq, Bool.and_eq_true, beq_iff_eq]; constructor <;> (intro h; simp_all; done)))
theorem Gg (f g : aF) (ho : f.Ok) (ho2 : g.Ok) : au Tryz.prog 45 [.agg [.g (.int .i64 (f.id)), .g (.int .i64 (f.kd)), .g (.int .i64 (f.x)), .g (.int .i64 (f.y)), .g (.int .i64 (f.r)), .lst 2 f.n (bX f.P), .g (.int .i64 (f.d)), .g (.int .i64 (f.s)), .lst 6 f.m (bX f.S)], .agg [.g (.int .i64 (g.id)), .g (.int .i64 (g.kd)), .g (.int .i64 (g.x)), .g (.int .i64 (g.y)), .g (.int .i64 (g.r)), .lst 2 g.n (bX g.P), .g (.int .i64 (g.d)), .g (.int .i64 (g.s)), .lst 6 g.m (bX g.S)]] (.t (.one (.g (.bool (tF f g))))) := by
  refine ah Tryz.func45 rfl (by rw [Tryz.ntmps45]; simp) ?_
  simp only [Tryz.ntmps45, zM, PT.tv, ak, Nat.zero_add, Nat.reduceAdd]
  repeat' (first
 | ((with_reducible show AW _ _ _ _); first
 | (with_reducible first | refine aS (fun K hK => ?_) | refine aI ?_ | refine aT ?_ | refine aC ?_)
 | (first
 | (with_reducible first | refine aP 0 [0,1] ?_ | refine aP 1 [2,3] ?_ | refine aP 2 [] ?_ | refine aP 3 [2,3] ?_)))
 | ((first | (with_reducible refine And.intro ?_ ?_) | (with_reducible refine Need.mk ?_)); focus (first | exact True.intro | (intro _; (with_reducible assumption)) | (simp; done)))
 | (with_reducible refine aA ?_)
 | ((with_reducible show aY _ _ _ _ _ _); first
 | ((with_reducible refine aH ?_ ?_) <;> (intro hc; (try simp only [zB, zC, reduceCtorEq] at hc); (try (exfalso; contradiction)))))
 | ((with_reducible show aN _ _ _ _ _ _ _ _ _ _); first
 | (refine aj (k := 78) Od (Yt _ _ _ _ ho.n ho2.n) ?_ ?_))
 | ((with_reducible show bK _ _ _ _ _ _ _ _ _ _); first
 | (refine aQ (k := 79) OD (fun hg => TI _ _ _ _ ho.m ho2.m) ?_ ?_))
 | ((fail_if_success (with_reducible show AW _ _ _ _)); simp (maxSteps := 2000000) only [go_sem, reduceIte, reduceCtorEq, xA, xL, xD, xE, xM, xS, xB, Tryz.f45, Go.Sea.ng])
 | ((with_reducible refine hK _ ?_); clear hK K))
  all_goals (first | (unfold tF; refine Bool.eq_iff_iff.2 ?_; simp only [decide_eq_true_eq, Bool.and_eq_true, beq_iff_eq, reduceCtorEq, false_iff]; omega) | (unfold tF; rw [decide_eq_true (by omega)]; rfl))
end Go.Proofs.YtmnejmpjmniiiaaGreatDoor
