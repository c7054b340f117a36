/- Part 8 of 16: contracts of functions and plain laws for the root text. No condition. -/
import Derived.Test.YtdhgiklbkmkblaaGreatK01
import Derived.Test.YtdhgiklbkmkblaaGreatK02
import Derived.Test.YtdhgiklbkmkblaaGreatK03
import Derived.Test.YtdhgiklbkmkblaaGreatK04
import Derived.Test.YtdhgiklbkmkblaaGreatK05
import Derived.Test.YtdhgiklbkmkblaaGreatK06
import Derived.Test.YtdhgiklbkmkblaaGreatK07
set_option linter.unusedVariables false
set_option linter.unusedSimpArgs false
namespace Go.Proofs.YtdhgiklbkmkblaaGreat
open Go.RowKit Go.Sea
open Nat renaming reduceAdd → xA, reduceLT → xL, reduceLeDiff → xD, reduceEqDiff → xE, reduceMul → xM, reduceSub → xS, reduceBEq → xB
theorem ar_205 : arD Tryz.prog 205 = some (2, 2) := by kernel_rfl
theorem fnok_168 : fnOk Tryz.prog 168 = true := by kernel_rfl
theorem fnok_195 : fnOk Tryz.prog 195 = true := by kernel_rfl
theorem fnok_213 : fnOk Tryz.prog 213 = true := by kernel_rfl
theorem fo_205 : fieldsOk Tryz.prog 205 = true := by kernel_rfl
theorem pl_205_0 : placeF Tryz.prog 205 0 = some (0, 2) := by kernel_rfl
theorem pl_205_1 : placeF Tryz.prog 205 1 = some (2, 2) := by kernel_rfl
theorem sl_205 : slD Tryz.prog 205 = none := by kernel_rfl
theorem ty_176 : tyD Tryz.prog 176 = some (false, 1) := by kernel_rfl
theorem ty_205 : tyD Tryz.prog 205 = some (true, 4) := by kernel_rfl
theorem zc_205 : zeroC Tryz.prog 205 = some [.iv (.g (.int .i64 0)), .iv (.g (.int .i64 0)), .iv (.g (.int .i64 0)), .iv (.g (.int .i64 0))] := by kernel_rfl
attribute [go_sem] ar_205 fnok_168 fnok_195 fo_205 pl_205_0 pl_205_1 sl_205 ty_176 ty_205 zc_205
def nx (n i : Nat) : Nat := ixN n ((i : Int) + 1)
theorem nx_lt {n i : Nat} (h : 0 < n) : nx n i < n := by
  unfold nx ixN
  have h1 := Int.emod_nonneg ((i : Int) + 1 + n) (show (n : Int) ≠ 0 by omega)
  have h2 := Int.emod_lt_of_pos ((i : Int) + 1 + n) (show (0 : Int) < n by omega)
  omega
def twT (P : Nat → Nat → Int) (n i : Nat) : Int := P i 0 * P (nx n i) 1 - P i 1 * P (nx n i) 0
def twF (P : Nat → Nat → Int) (n : Nat) : Nat → Int
  | 0 => 0
  | i + 1 => twF P n i + twT P n i
theorem twF_s (P : Nat → Nat → Int) (n i : Nat) : twF P n (i + 1) = twF P n i + (P i 0 * P (nx n i) 1 - P i 1 * P (nx n i) 0) := rfl
theorem tw_mul {P : Nat → Nat → Int} {n i j : Nat} (h : allPt P n) (hi : i < n) (hj : j < n) : (-1000000000000 ≤ P i 0 * P j 1 ∧ P i 0 * P j 1 ≤ 1000000000000) ∧ (-1000000000000 ≤ P i 1 * P j 0 ∧ P i 1 * P j 0 ≤ 1000000000000) := by
  have a := pt_d.1 (h i hi)
  have b := pt_d.1 (h j hj)
  have h1 := mul_bd (M := 1000000) a.1 b.2
  have h2 := mul_bd (M := 1000000) a.2 b.1
  omega
theorem twF_bd {P : Nat → Nat → Int} {n : Nat} (h : allPt P n) : ∀ i, i ≤ n → -(2000000000000 * (i : Int)) ≤ twF P n i ∧ twF P n i ≤ 2000000000000 * (i : Int)
  | 0, _ => by simp [twF]
  | i + 1, hi => by
    have := twF_bd h i (by omega)
    have t := tw_mul h (show i < n by omega) (nx_lt (n := n) (i := i) (by omega))
    rw [twF_s]; omega
set_option maxRecDepth 100000 in
set_option maxHeartbeats 4000000 in
theorem twice_p (n : Nat) (P : Nat → Nat → Int) (hn : 0 < n ∧ n ≤ 1000) (hp : allPt P n) : CallsP Tryz.prog 170 [.one (.lst 2 n (ptI P))] (.t (.one (.g (.int .i64 (twF P n n))))) := by
  have hz : True := trivial
  refine CallsP_of Tryz.func170 rfl (by rw [Tryz.ntmps170]; simp) ?_
  simp only [Tryz.ntmps170, zM, PT.tv, argEnv, Nat.zero_add, Nat.reduceAdd]
  repeat' (first
 | ((with_reducible show AW _ _ _ _); first
 | (with_reducible first | refine aS (fun K hK => ?_) | refine aI ?_ | refine aX ?_ | refine aT ?_ | refine aC ?_ | refine aB ?_)
 | ((refine AW_rangeFuncH (k := 213) rfl Tryz.func213 rfl fnok_213 (by rw [Tryz.ntmps213]; simp) ?_ ?_ (fun l hlne A B hA hB => ?_)); (focus (simp (maxSteps := 2000000) only [go_sem, reduceIte, reduceCtorEq, xA, xL, xD, xE, xM, xS, xB, Tryz.f170, Tryz.f213, Tryz.f195, ptI, twF_s, nx, hz, Int.toNat_one, Int.reduceToNat]; try exact True.intro)); (focus (simp (maxSteps := 2000000) only [go_sem, reduceIte, reduceCtorEq, xA, xL, xD, xE, xM, xS, xB, Tryz.f170, Tryz.f213, Tryz.f195, ptI, twF_s, nx, hz, Int.toNat_one, Int.reduceToNat]; try exact True.intro)); simp only [Tryz.ntmps213, List.map_cons, List.map_nil, LV.tv, argEnv, yV, Nat.zero_add, Nat.reduceAdd]; clear hlne)
 | (with_reducible refine AW_eq (by assumption) ?_)
 | (first
 | (with_reducible first | refine aP (ops := #[⟨some 2, _, _, _, _, _⟩]) 0 [0,9] ?_ | refine aP (ops := #[⟨some 5, _, _, _, _, _⟩, _, _]) 0 [0,1] ?_ | refine aP (ops := #[⟨some 1, _, _, _, _, _⟩, _]) 0 [0] ?_ | refine aP 1 [0,1,5,6,7,9] ?_ | refine aP (ops := #[⟨some 6, _, _, _, _, _⟩, _]) 2 [0,3,9] ?_ | refine aP (ops := #[⟨some 9, _, _, _, _, _⟩, _, _, _, _, _]) 2 [0,1,5,6,7] ?_ | refine aP 3 [3,9] ?_)
 | ((with_reducible refine aR (c := Code.region 3 _ true) [0,1,3,4,5,6,7] ?_); (with_reducible refine AW_regionY 8 ?_ ?_ ?_ ?_ ?_); (focus kernel_rfl); (focus kernel_rfl); (focus kernel_rfl); (focus kernel_rfl))
 | (with_reducible first | refine aP (ops := #[⟨some 10, _, _, _, _, _⟩, _, _, _, _, _, _, _, _, _, _, _, _, _, _, _, _, _]) 4 [3,5,9] ?_ | refine aP (ops := #[⟨some 22, _, _, _, _, _⟩, _]) 4 [0,1,5,6,7] ?_ | refine aP 5 [3] ?_))
 | ((with_reducible show AW _ (Code.loop _) _ _); first
 | ((with_reducible refine aL (c := (Code.seq (Code.region 1 _ _) _)) (ι := Nat) [0,1,5,6] (fun i => [(7, iA .i64 (i : Int))]) (fun i => [(0, [.iv (.g (.int .i64 (twF P n i)))])]) (fun i => i ≤ n) (fun i => n - i) 0 ?lg1 ?l11 ?l21 ?li1 ?lr1); (case' lg1 => rintro i _); (case' li1 => try exact Nat.zero_le _); (case' lr1 => rintro i hi KR hR1; (have hb := twF_bd hp i (by omega); have ht : i < n → _ := fun hi' => tw_mul hp hi' (nx_lt (n := n) (i := i) (by omega)); simp only [nx] at ht; have ht2 := ht); simp only [keepE, hupd, hset, lk, if_true, if_false, xE, reduceIte, zN, twF_s, nx, hz, Int.toNat_one, Int.reduceToNat]))))
 | ((first | (with_reducible refine And.intro ?_ ?_) | (with_reducible refine Need.mk ?_)); focus (first | exact True.intro | omega | (simp (disch := omega) only [Bool.and_eq_true, Bool.or_eq_true, decide_eq_true_eq, bne_iff_ne, ne_eq] at *; omega)))
 | (with_reducible refine retK_n ?_)
 | ((with_reducible show condN _ _ _ _ _ _); first
 | ((with_reducible refine condN_t ?_ ?_) <;> (intro hc; (try simp only [zB, zC, reduceCtorEq] at hc); (try (exfalso; contradiction)))))
 | ((with_reducible show ∀ _ : AS → Prop, _ → _); intro K hK)
 | ((with_reducible refine And.intro ?_ ?_); focus (((with_reducible show chkS _ _ _ _ = true); kernel_rfl)))
 | ((with_reducible show callN _ _ _ _ _ _ _ _ _ _); ((refine callN_i (k := 195) Tryz.func195 rfl fnok_195 (by rw [Tryz.ntmps195]; simp) ?_ ?_ (fun K hK => ?_)); (focus (exact True.intro)); (focus ((simp [lsF]; done))); simp only [Tryz.ntmps195, List.map_cons, List.map_nil, List.nil_append, List.cons_append, List.append_nil, LV.tv, argEnv, Nat.zero_add, Nat.reduceAdd]))
 | ((with_reducible show callDN _ _ _ _ _ _ _ _ _ _ _ _ _); first
 | (refine callDN_q (k := 168) fnok_168 (corner_p n P _ hn (by omega)) ?_ ?_))
 | ((with_reducible refine hR1 _ (i + 1) ?_); (try clear hR1 KR))
 | ((with_reducible refine Told.mk ?_); simp only [go_sem, reduceIte, reduceCtorEq, xA, xL, xD, xE, xM, xS, xB, ptI, twF_s, nx, hz, Int.toNat_one, Int.reduceToNat] <;> ((((try simp (disch := omega) only [seaWrap, Int.natCast_add, Int.cast_ofNat_Int, and_true, true_and, and_self]); (repeat' (first | omega | rfl)); done))))
 | ((fail_if_success (with_reducible show AW _ _ _ _)); simp (maxSteps := 2000000) only [go_sem, reduceIte, reduceCtorEq, xA, xL, xD, xE, xM, xS, xB, Tryz.f170, Tryz.f213, Tryz.f195, ptI, twF_s, nx, hz, Int.toNat_one, Int.reduceToNat])
 | ((fail_if_success (with_reducible show AW _ _ _ _)); simp (disch := omega) only [seaWrap, seaDiv, seaMod])
 | ((with_reducible show callN _ _ _ _ _ _ (.yld _) _ _ _); (refine callN_y (by simp only [lkL, if_true]; exact rfl) ?_ (by simp) ?_ ?_ (fun K hK => ?_)); (focus (exact True.intro)); (focus (simp [ltAll])); (focus ((simp [lsF]; done))); simp only [zipPut, gf, if_true, Nat.reduceAdd])
 | ((with_reducible refine hK _ ?_); clear hK K)
 | (with_reducible apply_assumption -exfalso only [*]))
  all_goals (((obtain rfl : i = n := by omega); rfl))
end Go.Proofs.YtdhgiklbkmkblaaGreat
namespace Go.Proofs.YtdhgiklbkmkblaaGreat
open Go.RowKit Go.Sea
open Nat renaming reduceAdd → xA, reduceLT → xL, reduceLeDiff → xD, reduceEqDiff → xE, reduceMul → xM, reduceSub → xS, reduceBEq → xB
theorem fnok_196 : fnOk Tryz.prog 196 = true := by kernel_rfl
theorem ty_4 : tyD Tryz.prog 4 = some (false, 1) := by kernel_rfl
theorem zc_4 : zeroC Tryz.prog 4 = some [.iv (.g (.bool false))] := by kernel_rfl
attribute [go_sem] fnok_196 ty_4 zc_4
def smP (P : Nat → Nat → Int) (n i k : Nat) : Prop := ((k : Int) ≤ (i : Int) + 1 ∨ ((i : Int) = 0 ∧ (k : Int) = (n : Int) - 1)) ∨ mvB (P i 0) (P i 1) (P (nx n i) 0) (P (nx n i) 1) (P k 0) (P k 1) (P (nx n k) 0) (P (nx n k) 1) = false
instance (P : Nat → Nat → Int) (n i k : Nat) : Decidable (smP P n i k) := by unfold smP; infer_instance
def simB (P : Nat → Nat → Int) (n : Nat) : Bool := decide (∀ i, i < n → ∀ k, k < n → smP P n i k)
theorem simB_f {P : Nat → Nat → Int} {n i k : Nat} (h2 : mvB (P i 0) (P i 1) (P (ixN n ((i : Int) + 1)) 0) (P (ixN n ((i : Int) + 1)) 1) (P k 0) (P k 1) (P (ixN n ((k : Int) + 1)) 0) (P (ixN n ((k : Int) + 1)) 1) = true) (h1 : (i : Int) + 1 < k ∧ ((i : Int) ≠ 0 ∨ (k : Int) ≠ (n : Int) - 1)) (hi : (i : Int) < n) (hk : (k : Int) < n) : false = simB P n := by
  refine (decide_eq_false fun g => ?_).symm
  have t := g i (by omega) k (by omega)
  unfold smP nx at t
  rw [h2] at t
  rcases t with t | t
  · omega
  · cases t
theorem simB_t {P : Nat → Nat → Int} {n i : Nat} (h : (n : Int) ≤ i) (g : ∀ i', i' < i → ∀ k', k' < n → smP P n i' k') : true = simB P n := (decide_eq_true fun j hj k hk => g j (by omega) k hk).symm
set_option maxRecDepth 100000 in
set_option maxHeartbeats 4000000 in
theorem simple_p (n : Nat) (P : Nat → Nat → Int) (hn : 0 < n ∧ n ≤ 1000) : CallsP Tryz.prog 169 [.one (.lst 2 n (ptI P))] (.t (.one (.g (.bool (simB P n))))) := by
  have hz : True := trivial
  refine CallsP_of Tryz.func169 rfl (by rw [Tryz.ntmps169]; simp) ?_
  simp only [Tryz.ntmps169, zM, PT.tv, argEnv, Nat.zero_add, Nat.reduceAdd]
  repeat' (first
 | ((with_reducible show AW _ _ _ _); first
 | (with_reducible first | refine aS (fun K hK => ?_) | refine aI ?_ | refine aX ?_ | refine aT ?_ | refine aC ?_ | refine aB ?_)
 | ((refine AW_rangeFuncH (k := 213) rfl Tryz.func213 rfl fnok_213 (by rw [Tryz.ntmps213]; simp) ?_ ?_ (fun l hlne A B hA hB => ?_)); (focus (simp (maxSteps := 2000000) only [go_sem, reduceIte, reduceCtorEq, xA, xL, xD, xE, xM, xS, xB, Tryz.f169, Tryz.f213, Tryz.f195, ptI, nx, hz, Int.toNat_one, Int.reduceToNat]; try exact True.intro)); (focus (simp (maxSteps := 2000000) only [go_sem, reduceIte, reduceCtorEq, xA, xL, xD, xE, xM, xS, xB, Tryz.f169, Tryz.f213, Tryz.f195, ptI, nx, hz, Int.toNat_one, Int.reduceToNat]; try exact True.intro)); simp only [Tryz.ntmps213, List.map_cons, List.map_nil, LV.tv, argEnv, yV, Nat.zero_add, Nat.reduceAdd]; clear hlne)
 | (with_reducible refine AW_eq (by assumption) ?_)
 | (first
 | (with_reducible first | refine aP 0 [0,1,14,15,18,19] ?_ | refine aP (ops := #[⟨some 10, _, _, _, _, _⟩, _, _, _]) 1 [1,2,14,15,18,19] ?_ | refine aP (ops := #[⟨some 8, _, _, _, _, _⟩]) 1 [0,1,5,6,7] ?_ | refine aP (ops := #[⟨some 3, _, _, _, _, _⟩, _]) 1 [1] ?_ | refine aP (ops := #[⟨some 12, _, _, _, _, _⟩, _]) 2 [1,2,3,14,15,18,19] ?_ | refine aP (ops := #[⟨some 9, _, _, _, _, _⟩, _, _, _, _, _]) 2 [0,1,5,6,7] ?_ | refine aP 3 [1,2,3,14,15,18,19] ?_)
 | ((with_reducible refine aR (c := Code.region 3 _ true) [0,1,3,4,5,6,7] ?_); (with_reducible refine AW_regionY 8 ?_ ?_ ?_ ?_ ?_); (focus kernel_rfl); (focus kernel_rfl); (focus kernel_rfl); (focus kernel_rfl))
 | (with_reducible first | refine aP (ops := #[⟨some 5, _, _, _, _, _⟩, _]) 4 [1,2,3,4,14,15,18,19] ?_ | refine aP (ops := #[⟨some 22, _, _, _, _, _⟩, _]) 4 [0,1,5,6,7] ?_ | refine aP 5 [1,2,3,4,5,14,15,18,19] ?_ | refine aP 6 [1,2,3,4,5,14,15,18,19] ?_ | refine aP 7 [1,2,3,4,5,6,14,15,18,19] ?_ | refine aP 8 [1,2,3,4,5,6,7,14,15,18,19] ?_ | refine aP 9 [1,2,3,4,5,7,14,15,18,19] ?_ | refine aP 10 [1,2,3,4,5,8,14,15,18,19] ?_ | refine aP 11 [2] ?_ | refine aP 12 [2] ?_))
 | ((with_reducible show AW _ (Code.loop _) _ _); first
 | ((have hO := hai; with_reducible refine aL (c := (Code.seq (Code.region 1 _ _) _)) (ι := Nat) [0,1,5,6] (fun k => [(7, iA .i64 (k : Int))]) (fun k => []) (fun k => k ≤ n ∧ (∀ k', k' < k → smP P n i k')) (fun k => n - k) 0 ?lg1b ?l11b ?l21b ?li1b ?lr1b); (case' lg1b => rintro k _); (case' li1b => try (exact ⟨Nat.zero_le _, fun i hi => absurd hi (Nat.not_lt_zero _)⟩)); (case' lr1b => rintro k ⟨hk, hak⟩ KR hR1b; simp only [keepE, hupd, hset, lk, if_true, if_false, xE, reduceIte, zN, nx, hz, Int.toNat_one, Int.reduceToNat]))
 | ((with_reducible refine aL (c := (Code.seq (Code.region 1 _ _) _)) (ι := Nat) [0,1,5,6] (fun i => [(7, iA .i64 (i : Int))]) (fun i => []) (fun i => i ≤ n ∧ (∀ i', i' < i → ∀ k', k' < n → smP P n i' k')) (fun i => n - i) 0 ?lg1a ?l11a ?l21a ?li1a ?lr1a); (case' lg1a => rintro i _); (case' li1a => try (exact ⟨Nat.zero_le _, fun i hi => absurd hi (Nat.not_lt_zero _)⟩)); (case' lr1a => rintro i ⟨hi, hai⟩ KR hR1a; simp only [keepE, hupd, hset, lk, if_true, if_false, xE, reduceIte, zN, nx, hz, Int.toNat_one, Int.reduceToNat]))))
 | ((first | (with_reducible refine And.intro ?_ ?_) | (with_reducible refine Need.mk ?_)); focus (first | exact True.intro | omega | (simp (disch := omega) only [Bool.and_eq_true, Bool.or_eq_true, decide_eq_true_eq, bne_iff_ne, ne_eq] at *; omega) | (simp; done) | (simp; omega)))
 | (with_reducible refine retK_n ?_)
 | ((with_reducible show condN _ _ _ _ _ _); first
 | ((with_reducible refine condN_t ?_ ?_) <;> (intro hc; (try simp only [zB, zC, reduceCtorEq] at hc); (try (exfalso; contradiction)))))
 | ((with_reducible show ∀ _ : AS → Prop, _ → _); intro K hK)
 | ((with_reducible refine And.intro ?_ ?_); focus (((with_reducible show chkS _ _ _ _ = true); kernel_rfl)))
 | ((with_reducible show callN _ _ _ _ _ _ _ _ _ _); first
 | (refine callN_q (k := 196) fnok_196 (Meet_p _ _ _ _ _ _ _ _) ?_ ?_)
 | ((refine callN_i (k := 195) Tryz.func195 rfl fnok_195 (by rw [Tryz.ntmps195]; simp) ?_ ?_ (fun K hK => ?_)); (focus (exact True.intro)); (focus ((simp [lsF]; done))); simp only [Tryz.ntmps195, List.map_cons, List.map_nil, List.nil_append, List.cons_append, List.append_nil, LV.tv, argEnv, Nat.zero_add, Nat.reduceAdd]))
 | ((with_reducible show callDN _ _ _ _ _ _ _ _ _ _ _ _ _); first
 | (refine callDN_q (k := 168) fnok_168 (corner_p n P _ hn (by omega)) ?_ ?_))
 | ((with_reducible refine hR1b _ (k + 1) ?_); (try clear hR1b KR))
 | ((with_reducible refine hR1a _ (i + 1) ?_); (try clear hR1a KR))
 | ((with_reducible refine Told.mk ?_); simp only [go_sem, reduceIte, reduceCtorEq, xA, xL, xD, xE, xM, xS, xB, ptI, nx, hz, Int.toNat_one, Int.reduceToNat] <;> (first | (((try simp (disch := omega) only [seaWrap, Int.natCast_add, Int.cast_ofNat_Int, and_true, true_and, and_self]); (repeat' (first | omega | (with_reducible refine And.intro ?_ ?_) | ((exact all_succ (by assumption) (Or.inl (by omega)))) | ((exact all_succ (by assumption) (Or.inr (by assumption)))))); done)) | (((try simp (disch := omega) only [seaWrap, Int.natCast_add, Int.cast_ofNat_Int, and_true, true_and, and_self]); (repeat' (first | omega | (with_reducible refine And.intro ?_ ?_) | ((exact all_succ (by assumption) (fun k' hk' => hak k' (by omega)))))); done))))
 | ((fail_if_success (with_reducible show AW _ _ _ _)); simp (maxSteps := 2000000) only [go_sem, reduceIte, reduceCtorEq, xA, xL, xD, xE, xM, xS, xB, Tryz.f169, Tryz.f213, Tryz.f195, ptI, nx, hz, Int.toNat_one, Int.reduceToNat])
 | ((fail_if_success (with_reducible show AW _ _ _ _)); simp (disch := omega) only [seaWrap, seaDiv, seaMod])
 | ((with_reducible show callN _ _ _ _ _ _ (.yld _) _ _ _); (refine callN_y (by simp only [lkL, if_true]; exact rfl) ?_ (by simp) ?_ ?_ (fun K hK => ?_)); (focus (exact True.intro)); (focus (simp [ltAll])); (focus ((simp [lsF]; done))); simp only [zipPut, gf, if_true, Nat.reduceAdd])
 | ((with_reducible refine hK _ ?_); clear hK K)
 | (with_reducible apply_assumption -exfalso only [*]))
  all_goals (first | exact simB_f (by assumption) (by assumption) (by assumption) (by assumption) | exact simB_t (by assumption) (by assumption))
end Go.Proofs.YtdhgiklbkmkblaaGreat
set_option maxRecDepth 100000
set_option maxHeartbeats 4000000
namespace Go.Proofs.YtdhgiklbkmkblaaGreat
open Go.RowKit Go.Sea
open Nat renaming reduceAdd → xA, reduceLT → xL, reduceLeDiff → xD, reduceEqDiff → xE, reduceMul → xM, reduceSub → xS, reduceBEq → xB
theorem fnok_176 : fnOk Tryz.prog 176 = true := by kernel_rfl
theorem fnok_202 : fnOk Tryz.prog 202 = true := by kernel_rfl
attribute [go_sem] fnok_176 fnok_202
theorem mv_meet {P : Nat → Nat → Int} {n i k : Nat} (hp : allPt P n) (hi : i < n) (hk : k < n) : mvB (P i 0) (P i 1) (P (nx n i) 0) (P (nx n i) 1) (P k 0) (P k 1) (P (nx n k) 0) (P (nx n k) 1) = meetB (P i 0) (P i 1) (P (nx n i) 0) (P (nx n i) 1) (P k 0) (P k 1) (P (nx n k) 0) (P (nx n k) 1) := by
  unfold mvB
  rw [hp i hi, hp k hk, hp _ (nx_lt (n := n) (i := i) (by omega)), hp _ (nx_lt (n := n) (i := k) (by omega))]; rfl
theorem rsimB_f {P : Nat → Nat → Int} {n i k : Nat} (hp : allPt P n) (h2 : meetB (P i 0) (P i 1) (P (nx n i) 0) (P (nx n i) 1) (P k 0) (P k 1) (P (nx n k) 0) (P (nx n k) 1) = true) (h1 : (i : Int) > 0 ∨ (k : Int) < (n : Int) - 1) (h0 : i + 2 ≤ k) (hi : (i : Int) < n) (hk : (k : Int) < n) : false = simB P n := by
  rw [← mv_meet hp (by omega) (by omega)] at h2
  exact simB_f h2 (by omega) hi hk
theorem smP_1 {P : Nat → Nat → Int} {n i k : Nat} (hp : allPt P n) (hi : (i : Int) < n) (hk : (k : Int) < n) (h2 : meetB (P i 0) (P i 1) (P (nx n i) 0) (P (nx n i) 1) (P k 0) (P k 1) (P (nx n k) 0) (P (nx n k) 1) = false) : smP P n i k := Or.inr (by rw [mv_meet hp (by omega) (by omega)]; exact h2)
theorem smP_2 {P : Nat → Nat → Int} {n i k : Nat} (hp : allPt P n) (hi : (i : Int) < n) (hk : (k : Int) < n) (h : ((i : Int) ≤ 0 ∧ (n : Int) - 1 ≤ k) ∨ meetB (P i 0) (P i 1) (P (nx n i) 0) (P (nx n i) 1) (P k 0) (P k 1) (P (nx n k) 0) (P (nx n k) 1) = false) : smP P n i k := by
  rcases h with h | h
  · exact Or.inl (Or.inr (by omega))
  · exact smP_1 hp hi hk h
theorem rnext_p (n : Nat) (P : Nat → Nat → Int) (i : Nat) (hn : 0 < n ∧ n ≤ 1000) (hi : i < n) : CallsP Tryz.prog 176 [.one (.lst 2 n (ptI P)), .one (.g (.int .i64 (i)))] (.t (.agg [.g (.int .i64 (P (nx n i) 0)), .g (.int .i64 (P (nx n i) 1))])) := by
  have hm : 0 ≤ ((i : Int) + 1) % (n : Int) ∧ ((i : Int) + 1) % (n : Int) < (n : Int) := ⟨Int.emod_nonneg _ (by omega), Int.emod_lt_of_pos _ (by omega)⟩
  have he : (((i : Int) + 1) % (n : Int)).toNat = nx n i := by unfold nx ixN; rw [Int.add_emod_right]
  refine CallsP_of Tryz.func176 rfl (by rw [Tryz.ntmps176]; simp) ?_
  simp only [Tryz.ntmps176, zM, PT.tv, argEnv, Nat.zero_add, Nat.reduceAdd]
  repeat' (first
 | ((with_reducible show AW _ _ _ _); first
 | (with_reducible first | refine aS (fun K hK => ?_) | refine aT ?_)
 | (first
 | (with_reducible first | refine aP 0 [0,1] ?_ | refine aP 1 [0,1,4] ?_)))
 | (((with_reducible refine And.intro ?_ ?_)); focus (first | (with_reducible assumption) | omega | (intros; simp_all; done)))
 | (with_reducible refine retK_n ?_)
 | ((fail_if_success (with_reducible show AW _ _ _ _)); simp (maxSteps := 2000000) only [go_sem, reduceIte, reduceCtorEq, xA, xL, xD, xE, xM, xS, xB, Tryz.f176, ptI])
 | ((fail_if_success (with_reducible show AW _ _ _ _)); simp (disch := omega) only [seaWrap, seaDiv, seaMod])
 | ((with_reducible refine hK _ ?_); clear hK K))
  all_goals (rw [he])
theorem rturn_p (ax ay bx by' cx cy : Int) (ha : ptB ax ay = true) (hb : ptB bx by' = true) (hc : ptB cx cy = true) : CallsP Tryz.prog 175 [.agg [.g (.int .i64 (ax)), .g (.int .i64 (ay))], .agg [.g (.int .i64 (bx)), .g (.int .i64 (by'))], .agg [.g (.int .i64 (cx)), .g (.int .i64 (cy))]] (.t (.one (.g (.int .i64 (trn ax ay bx by' cx cy))))) := by
  have hA := pt_d.1 ha
  have hB := pt_d.1 hb
  have hC := pt_d.1 hc
  have hX := crs_bd ha hb hc
  refine CallsP_of Tryz.func175 rfl (by rw [Tryz.ntmps175]; simp) ?_
  simp only [Tryz.ntmps175, zM, PT.tv, argEnv, Nat.zero_add, Nat.reduceAdd]
  repeat' (first
 | ((with_reducible show AW _ _ _ _); first
 | (with_reducible first | refine aS (fun K hK => ?_) | refine aT ?_)
 | (first
 | (with_reducible refine aP 0 [0,1,2] ?_)
 | ((with_reducible refine aR (c := Code.region 1 _ true) [3,4,5] ?_); (with_reducible refine aD ?_ ?_ ?_ ?_); (focus kernel_rfl); (focus kernel_rfl); (focus kernel_rfl))))
 | ((first | (with_reducible refine And.intro ?_ ?_) | (with_reducible refine Need.mk ?_)); focus (exact True.intro))
 | (with_reducible refine retK_n ?_)
 | ((with_reducible refine And.intro ?_ ?_); focus ((with_reducible show chkR _ _ _ = true); kernel_rfl))
 | ((with_reducible show callDN _ _ _ _ _ _ _ _ _ _ _ _ _); first
 | (refine callDN_q (k := 201) fnok_201 (rminus_p bx by' ax ay hB hA) ?_ ?_)
 | (refine callDN_q (k := 201) fnok_201 (rminus_p cx cy ax ay hC hA) ?_ ?_)
 | (refine callDN_q (k := 200) fnok_200 (rcross_p (bx - ax) (by' - ay) (cx - ax) (cy - ay) hX.1 hX.2) ?_ ?_)
 | (refine callDN_q (k := 199) fnok_199 (rsign_p _) ?_ ?_))
 | ((fail_if_success (with_reducible show AW _ _ _ _)); simp (maxSteps := 2000000) only [go_sem, reduceIte, reduceCtorEq, xA, xL, xD, xE, xM, xS, xB, Tryz.f175])
 | ((with_reducible refine hK _ ?_); clear hK K))
  all_goals (rfl)
theorem rtwice_p (n : Nat) (P : Nat → Nat → Int) (hn : 0 < n ∧ n ≤ 1000) (hp : allPt P n) : CallsP Tryz.prog 178 [.one (.lst 2 n (ptI P))] (.t (.one (.g (.int .i64 (twF P n n))))) := by
  refine CallsP_of Tryz.func178 rfl (by rw [Tryz.ntmps178]; simp) ?_
  simp only [Tryz.ntmps178, zM, PT.tv, argEnv, Nat.zero_add, Nat.reduceAdd]
  repeat' (first
 | ((with_reducible show AW _ _ _ _); first
 | (with_reducible first | refine aS (fun K hK => ?_) | refine aI ?_ | refine aX ?_ | refine aT ?_ | refine aC ?_ | refine aB ?_)
 | (first
 | (with_reducible first | refine aP 0 [0] ?_ | refine aP 1 [0] ?_ | refine aP 2 [0,3] ?_ | refine aP 3 [0,3,4] ?_ | refine aP 4 [0,3,4] ?_)
 | ((with_reducible refine aR (c := Code.region 5 _ true) [0,3,4] ?_); (with_reducible refine aD ?_ ?_ ?_ ?_); (focus kernel_rfl); (focus kernel_rfl); (focus kernel_rfl))
 | (with_reducible refine aP 6 [3] ?_))
 | ((with_reducible show AW _ (Code.loop _) _ _); first
 | ((with_reducible refine aL (c := (Code.seq (Code.seq (Code.region 3 _ _) _) _)) (ι := Nat) [0] (fun i => [(3, iA .i64 (twF P n i)), (4, iA .i64 (i : Int))]) (fun i => []) (fun i => i ≤ n) (fun i => n - i) 0 ?lg3 ?l13 ?l23 ?li3 ?lr3); (case' lg3 => rintro i _); (case' li3 => try exact Nat.zero_le _); (case' lr3 => rintro i hi KR hR3; (have hb := twF_bd hp i (by omega); have ht : i < n → _ := fun hi' => tw_mul hp hi' (nx_lt (n := n) (i := i) (by omega))); simp only [keepE, hupd, hset, lk, if_true, if_false, xE, reduceIte, zN, twF_s]))))
 | ((first | (with_reducible refine And.intro ?_ ?_) | (with_reducible refine Need.mk ?_)); focus (first | exact True.intro | omega))
 | (with_reducible refine retK_n ?_)
 | ((with_reducible show condN _ _ _ _ _ _); first
 | ((with_reducible refine condN_t ?_ ?_) <;> (intro hc; (try simp only [zB, zC, reduceCtorEq] at hc); (try (exfalso; contradiction)))))
 | ((with_reducible refine And.intro ?_ ?_); focus ((with_reducible show chkR _ _ _ = true); kernel_rfl))
 | ((with_reducible show callDN _ _ _ _ _ _ _ _ _ _ _ _ _); first
 | (refine callDN_q (k := 176) fnok_176 (rnext_p n P _ hn (by omega)) ?_ ?_)
 | (refine callDN_q (k := 200) fnok_200 (rcross_p _ _ _ _ (by omega) (by omega)) ?_ ?_))
 | ((with_reducible refine hR3 _ (i + 1) ?_); (try clear hR3 KR))
 | ((with_reducible refine Told.mk ?_); simp only [go_sem, reduceIte, reduceCtorEq, xA, xL, xD, xE, xM, xS, xB, ptI, twF_s] <;> ((((try simp (disch := omega) only [seaWrap, Int.natCast_add, Int.cast_ofNat_Int, and_true, true_and, and_self]); (repeat' (first | omega | rfl)); done))))
 | ((fail_if_success (with_reducible show AW _ _ _ _)); simp (maxSteps := 2000000) only [go_sem, reduceIte, reduceCtorEq, xA, xL, xD, xE, xM, xS, xB, Tryz.f178, ptI, twF_s])
 | ((fail_if_success (with_reducible show AW _ _ _ _)); simp (disch := omega) only [seaWrap, seaDiv, seaMod])
 | ((with_reducible refine hK _ ?_); clear hK K)
 | (with_reducible apply_assumption -exfalso only [*]))
  all_goals (((obtain rfl : i = n := by omega); rfl))
theorem rsimple_p (n : Nat) (P : Nat → Nat → Int) (hn : 0 < n ∧ n ≤ 1000) (hp : allPt P n) : CallsP Tryz.prog 177 [.one (.lst 2 n (ptI P))] (.t (.one (.g (.bool (simB P n))))) := by
  refine CallsP_of Tryz.func177 rfl (by rw [Tryz.ntmps177]; simp) ?_
  simp only [Tryz.ntmps177, zM, PT.tv, argEnv, Nat.zero_add, Nat.reduceAdd]
  repeat' (first
 | ((with_reducible show AW _ _ _ _); first
 | (with_reducible first | refine aS (fun K hK => ?_) | refine aI ?_ | refine aX ?_ | refine aT ?_ | refine aC ?_ | refine aB ?_)
 | (first
 | (with_reducible first | refine aP 0 [0] ?_ | refine aP 1 [0] ?_ | refine aP 2 [0,3] ?_ | refine aP 3 [0,3,4] ?_ | refine aP 4 [0,3,4] ?_ | refine aP 5 [0,3,4] ?_ | refine aP 6 [0,3,4,5] ?_ | refine aP 7 [0,3,4,5] ?_)
 | ((with_reducible refine aR (c := Code.region 8 _ true) [0,3,4,5] ?_); (with_reducible refine aD ?_ ?_ ?_ ?_); (focus kernel_rfl); (focus kernel_rfl); (focus kernel_rfl))
 | (with_reducible first | refine aP 9 [] ?_ | refine aP 10 [] ?_))
 | ((with_reducible show AW _ (Code.loop _) _ _); first
 | ((with_reducible refine aL (c := (Code.seq (Code.seq (Code.region 3 _ _) _) _)) (ι := Nat) [0,3] (fun i => [(4, iA .i64 (i : Int))]) (fun i => []) (fun i => i ≤ n ∧ (∀ i', i' < i → ∀ k', k' < n → smP P n i' k')) (fun i => n - i) 0 ?lg3 ?l13 ?l23 ?li3 ?lr3); (case' lg3 => rintro i _); (case' li3 => try (exact ⟨Nat.zero_le _, fun i hi => absurd hi (Nat.not_lt_zero _)⟩)); (case' lr3 => rintro i ⟨hi, hai⟩ KR hR3; simp only [keepE, hupd, hset, lk, if_true, if_false, xE, reduceIte, zN]))
 | ((with_reducible refine aL (c := (Code.seq (Code.seq (Code.region 6 _ _) _) _)) (ι := Nat) [0,3,4] (fun k => [(5, iA .i64 (k : Int))]) (fun k => []) (fun k => i + 2 ≤ k ∧ (k ≤ n ∨ k = i + 2) ∧ (∀ k', k' < k → smP P n i k')) (fun k => n - k) (i + 2) ?lg6 ?l16 ?l26 ?li6 ?lr6); (case' lg6 => rintro k _); (case' li6 => try (exact ⟨by omega, by omega, fun k2 h2 => Or.inl (Or.inl (by omega))⟩)); (case' lr6 => rintro k ⟨hk0, hk, hak⟩ KR hR6; simp only [keepE, hupd, hset, lk, if_true, if_false, xE, reduceIte, zN]))))
 | ((first | (with_reducible refine And.intro ?_ ?_) | (with_reducible refine Need.mk ?_)); focus (first | (intro _; (with_reducible assumption)) | (intros; (repeat' (first | omega | (with_reducible refine And.intro ?_ ?_))); done) | (simp; done)))
 | (with_reducible refine retK_n ?_)
 | ((with_reducible show condN _ _ _ _ _ _); first
 | ((with_reducible refine condN_t ?_ ?_) <;> (intro hc; (try simp only [zB, zC, reduceCtorEq] at hc); (try (exfalso; contradiction)))))
 | ((with_reducible refine And.intro ?_ ?_); focus ((with_reducible show chkR _ _ _ = true); kernel_rfl))
 | ((with_reducible show callDGN _ _ _ _ _ _ _ _ _ _ _ _ _); first
 | (refine callDGN_q (k := 176) fnok_176 (fun hg => rnext_p n P _ hn (by omega)) ?_ ?_)
 | (refine callDGN_q (k := 202) fnok_202 (fun hg => rcrosses_p _ _ _ _ _ _ _ _ (hp _ (by omega)) (hp _ (nx_lt (by omega))) (hp _ (by omega)) (hp _ (nx_lt (by omega)))) ?_ ?_))
 | ((with_reducible refine hR3 _ (i + 1) ?_); (try clear hR3 KR))
 | ((with_reducible refine hR6 _ (k + 1) ?_); (try clear hR6 KR))
 | ((with_reducible refine Told.mk ?_); simp only [go_sem, reduceIte, reduceCtorEq, xA, xL, xD, xE, xM, xS, xB, ptI] <;> (first | (((try simp (disch := omega) only [seaWrap, Int.natCast_add, Int.cast_ofNat_Int, and_true, true_and, and_self]); (repeat' (first | omega | (with_reducible refine And.intro ?_ ?_) | ((exact all_succ (by assumption) (fun k' hk' => hak k' (by omega)))))); done)) | (((try simp (disch := omega) only [seaWrap, Int.natCast_add, Int.cast_ofNat_Int, and_true, true_and, and_self]); (repeat' (first | omega | (with_reducible refine And.intro ?_ ?_) | ((exact all_succ (by assumption) (smP_2 hp (by assumption) (by assumption) (by assumption)))))); done))))
 | ((fail_if_success (with_reducible show AW _ _ _ _)); simp (maxSteps := 2000000) only [go_sem, reduceIte, reduceCtorEq, xA, xL, xD, xE, xM, xS, xB, Tryz.f177, ptI])
 | ((fail_if_success (with_reducible show AW _ _ _ _)); simp (disch := omega) only [seaWrap, seaDiv, seaMod])
 | ((with_reducible refine hK _ ?_); clear hK K)
 | (with_reducible apply_assumption -exfalso only [*]))
  all_goals (first | exact rsimB_f hp hc.2 hc.1 (by omega) (by omega) (by omega) | exact simB_t (by assumption) (by assumption))
end Go.Proofs.YtdhgiklbkmkblaaGreat
namespace Go.Proofs.YtdhgiklbkmkblaaGreat
open Go.RowKit Go.Sea
open Nat renaming reduceAdd → xA, reduceLT → xL, reduceLeDiff → xD, reduceEqDiff → xE, reduceMul → xM, reduceSub → xS, reduceBEq → xB
theorem fnok_155 : fnOk Tryz.prog 155 = true := by kernel_rfl
theorem fnok_174 : fnOk Tryz.prog 174 = true := by kernel_rfl
theorem fnok_175 : fnOk Tryz.prog 175 = true := by kernel_rfl
theorem fnok_177 : fnOk Tryz.prog 177 = true := by kernel_rfl
theorem fnok_178 : fnOk Tryz.prog 178 = true := by kernel_rfl
attribute [go_sem] fnok_155 fnok_174 fnok_175 fnok_177 fnok_178
def ltI (P : Nat → Nat → Int) (i : Nat) : Prop := P 0 0 < P i 0 ∨ (P 0 0 = P i 0 ∧ P 0 1 < P i 1)
instance (P : Nat → Nat → Int) (i : Nat) : Decidable (ltI P i) := by unfold ltI; infer_instance
def polV (P : Nat → Nat → Int) (i : Nat) : Prop := ptB (P i 0) (P i 1) = true ∧ (0 < i → ltI P i)
instance (P : Nat → Nat → Int) (i : Nat) : Decidable (polV P i) := by unfold polV; infer_instance
def nxx2 (n i : Nat) : Nat := (((i : Int) + 2) % (n : Int)).toNat
def trI (P : Nat → Nat → Int) (n i : Nat) : Int := trn (P i 0) (P i 1) (P (nx n i) 0) (P (nx n i) 1) (P (nxx2 n i) 0) (P (nxx2 n i) 1)
def polB (n : Nat) (P : Nat → Nat → Int) : Bool := decide ((3 ≤ n ∧ n ≤ 24) ∧ (∀ i, i < n → polV P i) ∧ (∀ i, i < n → trI P n i ≠ 0) ∧ simB P n = true ∧ 0 < twF P n n)
theorem pol_f0 {n : Nat} {P : Nat → Nat → Int} (h : (n : Int) < 3 ∨ (n : Int) > 24) : false = polB n P := (decide_eq_false fun g => by omega).symm
theorem pol_f1 {n i : Nat} {P : Nat → Nat → Int} (h : ptB (P i 0) (P i 1) = false) (hi : (i : Int) < n) : false = polB n P :=
  (decide_eq_false fun g => by have := (g.2.1 i (by omega)).1; rw [h] at this; cases this).symm
theorem pol_f2 {n i : Nat} {P : Nat → Nat → Int} (h : decide (P 0 0 < P i 0 ∨ (P 0 0 = P i 0 ∧ P 0 1 < P i 1)) = false) (h0 : (i : Int) > 0) (hi : (i : Int) < n) : false = polB n P :=
  (decide_eq_false fun g => by have := (g.2.1 i (by omega)).2 (by omega); unfold ltI at this; rw [decide_eq_false_iff_not] at h; exact h this).symm
theorem pol_f4 {n i : Nat} {P : Nat → Nat → Int} (h : ptB (P i 0) (P i 1) = false ∨ ((i : Int) > 0 ∧ ¬ (P 0 0 < P i 0 ∨ P 0 0 = P i 0 ∧ P 0 1 < P i 1))) (hi : (i : Int) < n) : false = polB n P := by
  rcases h with h | h
  · exact pol_f1 h hi
  · exact pol_f2 (decide_eq_false h.2) h.1 hi
theorem pol_f3 {n i : Nat} {P : Nat → Nat → Int} (h : trI P n i = 0) (hi : (i : Int) < n) : false = polB n P := (decide_eq_false fun g => g.2.2.1 i (by omega) h).symm
theorem pol_t {n i j : Nat} {P : Nat → Nat → Int} (hn : 3 ≤ n ∧ n ≤ 24) (hi : (n : Int) ≤ i) (hj : (n : Int) ≤ j) (g : ∀ i', i' < i → polV P i') (g2 : ∀ i', i' < j → trI P n i' ≠ 0) : (simB P n && decide (twF P n n > 0)) = polB n P := by
  refine Bool.eq_iff_iff.2 ?_
  simp only [polB, Bool.and_eq_true, decide_eq_true_eq]
  exact ⟨fun h => ⟨hn, fun k hk => g k (by omega), fun k hk => g2 k (by omega), h.1, h.2⟩, fun h => ⟨h.2.2.2.1, h.2.2.2.2⟩⟩
theorem pol_all {n i : Nat} {P : Nat → Nat → Int} (hi : (n : Int) ≤ i) (g : ∀ i', i' < i → polV P i') : allPt P n := fun k hk => (g k (by omega)).1
set_option maxRecDepth 100000 in
set_option maxHeartbeats 4000000 in
theorem rPol_p (n : Nat) (P : Nat → Nat → Int) (hn : n ≤ 9223372036854775807) : CallsP Tryz.prog 158 [.one (.lst 2 n (ptI P))] (.t (.one (.g (.bool (polB n P))))) := by
  refine CallsP_of Tryz.func158 rfl (by rw [Tryz.ntmps158]; simp) ?_
  simp only [Tryz.ntmps158, zM, PT.tv, argEnv, Nat.zero_add, Nat.reduceAdd]
  repeat' (first
 | ((with_reducible show AW _ _ _ _); first
 | (with_reducible first | refine aS (fun K hK => ?_) | refine aI ?_ | refine aX ?_ | refine aT ?_ | refine aC ?_ | refine aB ?_)
 | (first
 | (with_reducible first | refine aP 0 [0] ?_ | refine aP 1 [0] ?_ | refine aP 2 [0,3] ?_ | refine aP 3 [] ?_ | refine aP 4 [0,3] ?_ | refine aP 5 [0,3,4] ?_ | refine aP 6 [0,3,4] ?_ | refine aP 7 [0,3,4] ?_)
 | ((with_reducible refine aR (c := Code.region 8 _ true) [0,3,4,5] ?_); (with_reducible refine aD ?_ ?_ ?_ ?_); (focus kernel_rfl); (focus kernel_rfl); (focus kernel_rfl))
 | (with_reducible first | refine aP 9 [] ?_ | refine aP 10 [0,3] ?_ | refine aP 11 [0,3,6] ?_ | refine aP 12 [0,3,6] ?_)
 | ((with_reducible refine aR (c := Code.region 13 _ true) [0,3,6] ?_); (with_reducible refine aD ?_ ?_ ?_ ?_); (focus kernel_rfl); (focus kernel_rfl); (focus kernel_rfl))
 | (with_reducible first | refine aP 14 [] ?_ | refine aP 15 [0] ?_))
 | ((with_reducible show AW _ (Code.loop _) _ _); first
 | ((with_reducible refine aL (c := (Code.seq (Code.seq (Code.region 5 _ _) _) _)) (ι := Nat) [0,3] (fun i => [(4, iA .i64 (i : Int))]) (fun i => []) (fun i => i ≤ n ∧ (∀ i', i' < i → polV P i')) (fun i => n - i) 0 ?lg5 ?l15 ?l25 ?li5 ?lr5); (case' lg5 => rintro i _); (case' li5 => try (exact ⟨Nat.zero_le _, fun i hi => absurd hi (Nat.not_lt_zero _)⟩)); (case' lr5 => rintro i ⟨hi, hai⟩ KR hR5; simp only [keepE, hupd, hset, lk, if_true, if_false, xE, reduceIte, zN]))
 | ((with_reducible refine aL (c := (Code.seq (Code.seq (Code.region 11 _ _) _) _)) (ι := Nat) [0,3] (fun j => [(6, iA .i64 (j : Int))]) (fun j => []) (fun j => j ≤ n ∧ (∀ j', j' < j → trI P n j' ≠ 0)) (fun j => n - j) 0 ?lg11 ?l111 ?l211 ?li11 ?lr11); (case' lg11 => rintro j _); (case' li11 => try (exact ⟨Nat.zero_le _, fun i hi => absurd hi (Nat.not_lt_zero _)⟩)); (case' lr11 => rintro j ⟨hj, haj⟩ KR hR11; (have hm : 0 ≤ ((j : Int) + 2) % (n : Int) ∧ ((j : Int) + 2) % (n : Int) < (n : Int) := ⟨Int.emod_nonneg _ (by omega), Int.emod_lt_of_pos _ (by omega)⟩); simp only [keepE, hupd, hset, lk, if_true, if_false, xE, reduceIte, zN]))))
 | ((first | (with_reducible refine And.intro ?_ ?_) | (with_reducible refine Need.mk ?_)); focus (first | exact True.intro | (with_reducible assumption) | omega | (intro _; (with_reducible assumption)) | (intros; (repeat' (first | omega | (with_reducible refine And.intro ?_ ?_))); done) | (simp; done) | (simp +contextual; done)))
 | (with_reducible refine retK_n ?_)
 | ((with_reducible show condN _ _ _ _ _ _); first
 | ((with_reducible refine condN_t ?_ ?_) <;> (intro hc; (try simp only [zB, zC, reduceCtorEq] at hc); (try (exfalso; contradiction)))))
 | ((with_reducible refine And.intro ?_ ?_); focus ((with_reducible show chkR _ _ _ = true); kernel_rfl))
 | ((with_reducible show callN _ _ _ _ _ _ _ _ _ _); first
 | (refine callN_q (k := 155) fnok_155 (rptV_p _ _) ?_ ?_)
 | (refine callN_q (k := 177) fnok_177 (rsimple_p n P (by omega) (pol_all (by omega) hai)) ?_ ?_))
 | ((with_reducible show callDGN _ _ _ _ _ _ _ _ _ _ _ _ _); first
 | (refine callDGN_q (k := 174) fnok_174 (fun hg => rless_p _ _ _ _) ?_ ?_))
 | ((with_reducible show callDN _ _ _ _ _ _ _ _ _ _ _ _ _); first
 | (refine callDN_q (k := 176) fnok_176 (rnext_p n P _ (by omega) (by omega)) ?_ ?_)
 | (refine callDN_q (k := 175) fnok_175 (rturn_p _ _ _ _ _ _ ((pol_all (by omega) hai) _ (by omega)) ((pol_all (by omega) hai) _ (nx_lt (by omega))) ((pol_all (by omega) hai) _ (by omega))) ?_ ?_))
 | ((with_reducible show callGN _ _ _ _ _ _ _ _ _ _); first
 | (refine callGN_q (k := 178) fnok_178 (fun hg => rtwice_p n P (by omega) (pol_all (by omega) hai)) ?_ ?_))
 | ((with_reducible refine hR5 _ (i + 1) ?_); (try clear hR5 KR))
 | ((with_reducible refine hR11 _ (j + 1) ?_); (try clear hR11 KR))
 | ((with_reducible refine Told.mk ?_); simp only [go_sem, reduceIte, reduceCtorEq, xA, xL, xD, xE, xM, xS, xB, ptI] <;> ((((try simp (disch := omega) only [seaWrap, Int.natCast_add, Int.cast_ofNat_Int, and_true, true_and, and_self]); (repeat' (first | omega | (with_reducible refine And.intro ?_ ?_) | (exact all_succ (by assumption) (by assumption)) | ((exact all_succ (by assumption) ⟨by simp_all, fun h0 => by unfold ltI; simp_all; omega⟩)))); done))))
 | ((fail_if_success (with_reducible show AW _ _ _ _)); simp (maxSteps := 2000000) only [go_sem, reduceIte, reduceCtorEq, xA, xL, xD, xE, xM, xS, xB, Tryz.f158, ptI])
 | ((fail_if_success (with_reducible show AW _ _ _ _)); simp (disch := omega) only [seaWrap, seaDiv, seaMod])
 | ((with_reducible refine hK _ ?_); clear hK K)
 | (with_reducible apply_assumption -exfalso only [*]))
  all_goals (first | exact pol_f0 (by assumption) | exact pol_f4 (by assumption) (by assumption) | exact pol_t (by omega) (by omega) (by omega) hai haj | exact pol_f3 (by assumption) (by omega))
end Go.Proofs.YtdhgiklbkmkblaaGreat
set_option maxRecDepth 100000
set_option maxHeartbeats 4000000
namespace Go.Proofs.YtdhgiklbkmkblaaGreat
open Go.RowKit Go.Sea
open Nat renaming reduceAdd → xA, reduceLT → xL, reduceLeDiff → xD, reduceEqDiff → xE, reduceMul → xM, reduceSub → xS, reduceBEq → xB
theorem fnok_164 : fnOk Tryz.prog 164 = true := by kernel_rfl
theorem fnok_165 : fnOk Tryz.prog 165 = true := by kernel_rfl
theorem fnok_166 : fnOk Tryz.prog 166 = true := by kernel_rfl
theorem fnok_167 : fnOk Tryz.prog 167 = true := by kernel_rfl
theorem fnok_169 : fnOk Tryz.prog 169 = true := by kernel_rfl
theorem fnok_170 : fnOk Tryz.prog 170 = true := by kernel_rfl
theorem fnok_192 : fnOk Tryz.prog 192 = true := by kernel_rfl
attribute [go_sem] fnok_165 fnok_166 fnok_167 fnok_169 fnok_170 fnok_192
def trJ (P : Nat → Nat → Int) (n i : Nat) : Int := tvV (P (ixN n ((i : Int) - 1)) 0) (P (ixN n ((i : Int) - 1)) 1) (P i 0) (P i 1) (P (ixN n ((i : Int) + 1)) 0) (P (ixN n ((i : Int) + 1)) 1)
theorem nx_val {n i : Nat} (hi : i < n) : nx n i = if i + 1 = n then 0 else i + 1 := by
  unfold nx ixN
  rw [Int.add_emod_right]
  split
  · rw [show (i : Int) + 1 = n by omega, Int.emod_self]; rfl
  · rw [Int.emod_eq_of_lt (by omega) (by omega)]; omega
theorem pv_val {n i : Nat} (hi : i < n) : ixN n ((i : Int) - 1) = if i = 0 then n - 1 else i - 1 := by
  unfold ixN
  split
  · rw [Int.emod_eq_of_lt (by omega) (by omega)]; omega
  · rw [Int.add_emod_right, Int.emod_eq_of_lt (by omega) (by omega)]; omega
theorem nx2_val {n i : Nat} (hn : 3 ≤ n) (hi : i < n) : nxx2 n i = if i + 2 = n then 0 else if i + 1 = n then 1 else i + 2 := by
  unfold nxx2
  split
  · rw [show (i : Int) + 2 = n by omega, Int.emod_self]; rfl
  · split
    · rw [show (i : Int) + 2 = 1 + n by omega, Int.add_emod_right, Int.emod_eq_of_lt (by omega) (by omega)]; rfl
    · rw [Int.emod_eq_of_lt (by omega) (by omega)]; omega
theorem trJ_eq {P : Nat → Nat → Int} {n j : Nat} (hn : 3 ≤ n) (hp : allPt P n) (hj : j < n) : trJ P n j = trI P n (ixN n ((j : Int) - 1)) := by
  have e0 := pv_val hj
  have hi : ixN n ((j : Int) - 1) < n := by rw [e0]; split <;> omega
  have e1 : nx n (ixN n ((j : Int) - 1)) = j := by rw [nx_val hi, e0]; split <;> (split <;> omega)
  have e2 : nxx2 n (ixN n ((j : Int) - 1)) = nx n j := by
    rw [nx2_val hn hi, nx_val hj, e0]; repeat' split
    all_goals omega
  unfold trJ trI tvV
  rw [e1, e2]
  have e3 : ixN n ((j : Int) + 1) = nx n j := rfl
  rw [e3, hp _ hi, hp _ hj, hp _ (nx_lt (n := n) (i := j) (by omega))]; rfl
theorem pv_nx {n i : Nat} (hi : i < n) : ixN n (((nx n i : Nat) : Int) - 1) = i := by
  have h := nx_lt (n := n) (i := i) (by omega)
  rw [pv_val h, nx_val hi]; repeat' split
  all_goals omega
def ordJ (P : Nat → Nat → Int) (i : Nat) : Prop := 0 < i → ordV (P 0 0) (P 0 1) (P i 0) (P i 1) < 0
theorem pol_g1 {P : Nat → Nat → Int} {n i j : Nat} (hn : 3 ≤ (n : Int) ∧ (n : Int) ≤ 24) (haj : ∀ j', j' < j → ptB (P j' 0) (P j' 1) = true) (hj : (n : Int) ≤ j) (hi : (i : Int) < n) (h : ((i : Int) > 0 ∧ ordV (P 0 0) (P 0 1) (P i 0) (P i 1) ≥ 0) ∨ trJ P n i = 0) : false = polB n P := by
  rcases h with h | h
  · exact pol_f2 (decide_eq_false ((ordV_lt _ _ _ _).1 h.2)) h.1 hi
  · rw [trJ_eq (by omega) (fun k hk => haj k (by omega)) (by omega)] at h
    refine pol_f3 h ?_
    have := pv_val (n := n) (i := i) (by omega)
    rw [this]; split <;> omega
theorem pol_g2 {P : Nat → Nat → Int} {n i j : Nat} (hn : 3 ≤ (n : Int) ∧ (n : Int) ≤ 24) (haj : ∀ j', j' < j → ptB (P j' 0) (P j' 1) = true) (hj : (n : Int) ≤ j) (hai : ∀ i', i' < i → ordJ P i' ∧ trJ P n i' ≠ 0) (hi : (n : Int) ≤ i) : (simB P n && decide (twF P n n > 0)) = polB n P := by
  have hp : allPt P n := fun k hk => haj k (by omega)
  refine pol_t (i := n) (j := n) (by omega) (by omega) (by omega) (fun k hk => ⟨hp k hk, fun h0 => ?_⟩) (fun k hk => ?_)
  · have h1 := (hai k (by omega)).1 h0
    have h2 := ordV_lt (P 0 0) (P 0 1) (P k 0) (P k 1)
    unfold ltI
    exact Classical.byContradiction fun g => by have := h2.2 g; omega
  · have hx := nx_lt (n := n) (i := k) (by omega)
    have h1 := (hai (nx n k) (by omega)).2
    rw [trJ_eq (by omega) hp hx, pv_nx hk] at h1
    exact h1
theorem bad_p (x y : Int) : CallsP Tryz.prog 164 [.agg [.g (.int .i64 (x)), .g (.int .i64 (y))]] (.t (.one (.g (.bool (!ptB x y))))) := by
  refine CallsP_of Tryz.func164 rfl (by rw [Tryz.ntmps164]; simp) ?_
  simp only [Tryz.ntmps164, zM, PT.tv, argEnv, Nat.zero_add, Nat.reduceAdd]
  repeat' (first
 | ((with_reducible show AW _ _ _ _); first
 | (with_reducible first | refine aS (fun K hK => ?_) | refine aT ?_)
 | (first
 | (with_reducible first | refine aP 0 [0] ?_ | refine aP 1 [1] ?_)))
 | (((with_reducible refine Need.mk ?_)); focus (exact True.intro))
 | (with_reducible refine retK_n ?_)
 | ((with_reducible show callN _ _ _ _ _ _ _ _ _ _); first
 | (refine callN_q (k := 145) fnok_145 (ptV_p _ _) ?_ ?_))
 | ((fail_if_success (with_reducible show AW _ _ _ _)); simp (maxSteps := 2000000) only [go_sem, reduceIte, reduceCtorEq, xA, xL, xD, xE, xM, xS, xB, Tryz.f164])
 | ((with_reducible refine hK _ ?_); clear hK K))
theorem Pol_p (n : Nat) (P : Nat → Nat → Int) (hn : n ≤ 9223372036854775807) : CallsP Tryz.prog 147 [.one (.lst 2 n (ptI P))] (.t (.one (.g (.bool (polB n P))))) := by
  refine CallsP_of Tryz.func147 rfl (by rw [Tryz.ntmps147]; simp) ?_
  simp only [Tryz.ntmps147, zM, PT.tv, argEnv, Nat.zero_add, Nat.reduceAdd]
  repeat' (first
 | ((with_reducible show AW _ _ _ _); first
 | (with_reducible first | refine aS (fun K hK => ?_) | refine aI ?_ | refine aX ?_ | refine aT ?_ | refine aC ?_ | refine aB ?_)
 | (first
 | (with_reducible first | refine aP 0 [0,1] ?_ | refine aP (ops := #[⟨some 3, _, _, _, _, _⟩]) 1 [0] ?_ | refine aP (ops := #[⟨some 5, _, _, _, _, _⟩, _, _, _, _]) 1 [0,1] ?_ | refine aP (ops := #[⟨some 6, _, _, _, _, _⟩, _, _]) 1 [0,1] ?_ | refine aP (ops := #[⟨some 6, _, _, _, _, _⟩, _, _, _, _, _, _, _, _, _, _, _, _]) 2 [0,3] ?_ | refine aP (ops := #[⟨some 9, _, _, _, _, _⟩]) 2 [0,1,7,8] ?_ | refine aP (ops := #[⟨some 2, _, _, _, _, _⟩]) 3 [] ?_ | refine aP (ops := #[⟨some 10, _, _, _, _, _⟩, _]) 3 [0,1,7,8] ?_ | refine aP (ops := #[⟨some 19, _, _, _, _, _⟩, _]) 4 [0] ?_ | refine aP (ops := #[⟨some 11, _, _, _, _, _⟩, _, _, _, _, _]) 4 [0,1,5,7,8] ?_ | refine aP (ops := #[⟨some 20, _, _, _, _, _⟩, _, _]) 5 [4] ?_ | refine aP (ops := #[⟨some 17, _, _, _, _, _⟩, _]) 5 [5] ?_ | refine aP (ops := #[⟨some 23, _, _, _, _, _⟩]) 6 [4,21,22] ?_ | refine aP (ops := #[⟨some 18, _, _, _, _, _⟩, _]) 6 [0,1,7,8] ?_ | refine aP (ops := #[⟨some 24, _, _, _, _, _⟩, _]) 7 [4,21,22] ?_ | refine aP (ops := #[⟨some 4, _, _, _, _, _⟩]) 7 [] ?_)
 | ((with_reducible refine aR (c := Code.region 8 _ true) [4,5,21,22] ?_); (with_reducible refine aD ?_ ?_ ?_ ?_); (focus kernel_rfl); (focus kernel_rfl); (focus kernel_rfl))
 | (with_reducible first | refine aP 9 [] ?_ | refine aP 10 [4,21,22] ?_ | refine aP 11 [4] ?_))
 | ((with_reducible show AW _ (Code.loop _) _ _); first
 | ((with_reducible refine aL (c := (Code.seq (Code.region 2 _ _) _)) (ι := Nat) [0,1,7] (fun j => [(8, iA .i64 (j : Int))]) (fun j => []) (fun j => j ≤ n ∧ (∀ j', j' < j → ptB (P j' 0) (P j' 1) = true)) (fun j => n - j) 0 ?lg2 ?l12 ?l22 ?li2 ?lr2); (case' lg2 => rintro j _); (case' li2 => try (exact ⟨Nat.zero_le _, fun i hi => absurd hi (Nat.not_lt_zero _)⟩)); (case' lr2 => rintro j ⟨hj, haj⟩ KR hR2; simp only [keepE, hupd, hset, lk, if_true, if_false, xE, reduceIte, zN]))
 | ((with_reducible refine aL (c := (Code.seq (Code.region 6 _ _) _)) (ι := Nat) [4,21] (fun i => [(22, iA .i64 (i : Int))]) (fun i => []) (fun i => i ≤ n ∧ (∀ i', i' < i → ordJ P i' ∧ trJ P n i' ≠ 0)) (fun i => n - i) 0 ?lg6 ?l16 ?l26 ?li6 ?lr6); (case' lg6 => rintro i _); (case' li6 => try (exact ⟨Nat.zero_le _, fun i hi => absurd hi (Nat.not_lt_zero _)⟩)); (case' lr6 => rintro i ⟨hi, hai⟩ KR hR6; simp only [keepE, hupd, hset, lk, if_true, if_false, xE, reduceIte, zN]))))
 | ((first | (with_reducible refine And.intro ?_ ?_) | (with_reducible refine Need.mk ?_)); focus (first | exact True.intro | omega | (intro _; (with_reducible assumption)) | (intros; (repeat' (first | omega | (with_reducible refine And.intro ?_ ?_))); done) | (simp; done) | (simp; omega)))
 | (with_reducible refine retK_n ?_)
 | ((with_reducible show condN _ _ _ _ _ _); first
 | ((with_reducible refine condN_t ?_ ?_) <;> (intro hc; (try simp only [zB, zC, reduceCtorEq] at hc); (try (exfalso; omega)))))
 | ((with_reducible refine And.intro ?_ ?_); focus ((with_reducible show chkR _ _ _ = true); kernel_rfl))
 | ((with_reducible show callN _ _ _ _ _ _ _ _ _ _); first
 | (refine callN_q (k := 164) fnok_164 (bad_p _ _) ?_ ?_)
 | (refine callN_q (k := 169) fnok_169 (simple_p n P (by omega)) ?_ ?_)
 | ((refine callN_i (k := 165) Tryz.func165 rfl fnok_165 (by rw [Tryz.ntmps165]; simp) ?_ ?_ (fun K hK => ?_)); (focus ((simp; omega))); (focus ((simp [lsF]; done))); simp only [Tryz.ntmps165, List.map_cons, List.map_nil, List.nil_append, List.cons_append, List.append_nil, LV.tv, argEnv, Nat.zero_add, Nat.reduceAdd])
 | ((refine callN_i (k := 192) Tryz.func192 rfl fnok_192 (by rw [Tryz.ntmps192]; simp) ?_ ?_ (fun K hK => ?_)); (focus (exact True.intro)); (focus ((simp [lsF]; done))); simp only [Tryz.ntmps192, List.map_cons, List.map_nil, List.nil_append, List.cons_append, List.append_nil, LV.tv, argEnv, Nat.zero_add, Nat.reduceAdd]))
 | ((with_reducible show callDGN _ _ _ _ _ _ _ _ _ _ _ _ _); first
 | (refine callDGN_q (k := 166) fnok_166 (fun hg => order_p _ _ _ _) ?_ ?_)
 | (refine callDGN_q (k := 167) fnok_167 (fun hg => pturn_p _ _ _ _ _ _) ?_ ?_)
 | (refine callDGN_q (k := 168) fnok_168 (fun hg => corner_p n P _ (by omega) (by omega)) ?_ ?_))
 | ((with_reducible show callGN _ _ _ _ _ _ _ _ _ _); first
 | (refine callGN_q (k := 170) fnok_170 (fun hg => twice_p n P (by omega) (fun k hk => haj k (by omega))) ?_ ?_)
 | ((refine callGN_sq (k := 165) ?_ ?_) <;> (intro hc; (try simp only [zB, zC, reduceCtorEq] at hc); (try (exfalso; contradiction)))))
 | ((with_reducible refine hR2 _ (j + 1) ?_); (try clear hR2 KR))
 | ((with_reducible refine hR6 _ (i + 1) ?_); (try clear hR6 KR))
 | ((with_reducible refine Told.mk ?_); simp only [go_sem, reduceIte, reduceCtorEq, xA, xL, xD, xE, xM, xS, xB, ptI] <;> (first | (((try simp (disch := omega) only [seaWrap, Int.natCast_add, Int.cast_ofNat_Int, and_true, true_and, and_self]); (repeat' (first | omega | (with_reducible refine And.intro ?_ ?_) | (exact all_succ (by assumption) (by assumption)) )); done)) | (((try simp (disch := omega) only [seaWrap, Int.natCast_add, Int.cast_ofNat_Int, and_true, true_and, and_self]); (repeat' (first | omega | (with_reducible refine And.intro ?_ ?_) | ((exact all_succ (by assumption) ⟨fun h0 => by omega, by unfold trJ; exact hc.2⟩)))); done))))
 | ((fail_if_success (with_reducible show AW _ _ _ _)); simp (maxSteps := 2000000) only [go_sem, reduceIte, reduceCtorEq, xA, xL, xD, xE, xM, xS, xB, Tryz.f147, Tryz.f165, Tryz.f192, ptI])
 | ((fail_if_success (with_reducible show AW _ _ _ _)); simp (disch := omega) only [seaWrap, seaDiv, seaMod])
 | ((with_reducible refine hK _ ?_); clear hK K)
 | (with_reducible apply_assumption -exfalso only [*]))
  all_goals (first | exact pol_f0 (by assumption) | exact pol_f1 (by assumption) (by assumption) | exact pol_g1 (by assumption) haj (by assumption) (by assumption) hc | exact pol_g2 (by assumption) haj (by assumption) hai hc)
end Go.Proofs.YtdhgiklbkmkblaaGreat
set_option maxRecDepth 100000
set_option maxHeartbeats 4000000
namespace Go.Proofs.YtdhgiklbkmkblaaGreat
open Go.RowKit Go.Sea
open Nat renaming reduceAdd → xA, reduceLT → xL, reduceLeDiff → xD, reduceEqDiff → xE, reduceMul → xM, reduceSub → xS, reduceBEq → xB
theorem bo_152 : boD Tryz.prog 152 = false := by kernel_rfl
theorem bo_71 : boD Tryz.prog 71 = false := by kernel_rfl
theorem eq_152 : eqD Tryz.prog 152 = some (true, [.int .i64, .int .i64, .int .i64, .int .i64, .int .i64, .int .i64]) := by kernel_rfl
theorem eq_71 : eqD Tryz.prog 71 = some (true, [.int .i64, .int .i64]) := by kernel_rfl
attribute [go_sem] bo_152 bo_71 eq_152 eq_71
def eqI (w : Nat) (P Q : Nat → Nat → Int) (i : Nat) : Prop := ∀ o, o < w → P i o = Q i o
def eqLB (w n m : Nat) (P Q : Nat → Nat → Int) : Bool := decide (n = m ∧ ∀ i, i < n → ∀ o, o < w → P i o = Q i o)
theorem eqL_f0 {w n m : Nat} {P Q : Nat → Nat → Int} (h : (n : Int) ≠ m) : false = eqLB w n m P Q := (decide_eq_false fun g => by omega).symm
theorem eqL_t {w n m i : Nat} {P Q : Nat → Nat → Int} (h : (n : Int) = m) (hi : (n : Int) ≤ i) (g : ∀ i', i' < i → eqI w P Q i') : true = eqLB w n m P Q := (decide_eq_true ⟨by omega, fun k hk => g k (by omega)⟩).symm
theorem eqPt_p (n m : Nat) (P Q : Nat → Nat → Int) (hn : n ≤ 9223372036854775807) (hm : m ≤ 9223372036854775807) : CallsP Tryz.prog 114 [.one (.lst 2 n (ptI P)), .one (.lst 2 m (ptI Q))] (.t (.one (.g (.bool (eqLB 2 n m P Q))))) := by
  refine CallsP_of Tryz.func114 rfl (by rw [Tryz.ntmps114]; simp) ?_
  simp only [Tryz.ntmps114, zM, PT.tv, argEnv, Nat.zero_add, Nat.reduceAdd]
  repeat' (first
 | ((with_reducible show AW _ _ _ _); first
 | (with_reducible first | refine aS (fun K hK => ?_) | refine aI ?_ | refine aX ?_ | refine aT ?_ | refine aC ?_ | refine aB ?_)
 | (first
 | (with_reducible first | refine aP 0 [0,1] ?_ | refine aP 1 [0,1] ?_ | refine aP 2 [] ?_ | refine aP 3 [0,1] ?_ | refine aP 4 [0,1,12,13] ?_ | refine aP 5 [0,1,12,13] ?_)
 | ((with_reducible refine aR (c := Code.region 6 _ true) [0,1,5,12,13] ?_); (with_reducible refine aD ?_ ?_ ?_ ?_); (focus kernel_rfl); (focus kernel_rfl); (focus kernel_rfl))
 | (with_reducible first | refine aP 7 [] ?_ | refine aP 8 [0,1,12,13] ?_ | refine aP 9 [] ?_))
 | ((with_reducible show AW _ (Code.loop _) _ _); first
 | ((with_reducible refine aL (c := (Code.seq (Code.region 4 _ _) _)) (ι := Nat) [0,1,12] (fun i => [(13, iA .i64 (i : Int))]) (fun i => []) (fun i => i ≤ n ∧ (∀ i', i' < i → eqI 2 P Q i')) (fun i => n - i) 0 ?lg4 ?l14 ?l24 ?li4 ?lr4); (case' lg4 => rintro i _); (case' li4 => try (exact ⟨Nat.zero_le _, fun i hi => absurd hi (Nat.not_lt_zero _)⟩)); (case' lr4 => rintro i ⟨hi, hai⟩ KR hR4; simp only [keepE, hupd, hset, lk, if_true, if_false, xE, reduceIte, zN, Go.Sea.cmpS]))))
 | (((with_reducible refine And.intro ?_ ?_)); focus (omega))
 | (with_reducible refine retK_n ?_)
 | ((with_reducible show condN _ _ _ _ _ _); first
 | ((with_reducible refine condN_t ?_ ?_) <;> (intro hc; (try simp only [zB, zC, reduceCtorEq] at hc); (try (exfalso; contradiction)))))
 | ((with_reducible refine And.intro ?_ ?_); focus ((with_reducible show chkR _ _ _ = true); kernel_rfl))
 | ((with_reducible refine hR4 _ (i + 1) ?_); (try clear hR4 KR))
 | ((with_reducible refine Told.mk ?_); simp only [go_sem, reduceIte, reduceCtorEq, xA, xL, xD, xE, xM, xS, xB, ptI, Go.Sea.cmpS] <;> ((((try simp (disch := omega) only [seaWrap, Int.natCast_add, Int.cast_ofNat_Int, and_true, true_and, and_self]); (repeat' (first | omega | (with_reducible refine And.intro ?_ ?_) | ((exact all_succ (by assumption) (by (intro o ho; rcases o with _ | _ | o <;> first | omega | (simp_all; done))))))); done))))
 | ((fail_if_success (with_reducible show AW _ _ _ _)); simp (maxSteps := 2000000) only [go_sem, reduceIte, reduceCtorEq, xA, xL, xD, xE, xM, xS, xB, Tryz.f114, ptI, Go.Sea.cmpS])
 | ((with_reducible refine hK _ ?_); clear hK K)
 | (with_reducible apply_assumption -exfalso only [*]))
  all_goals (first | exact eqL_f0 (by omega) | exact eqL_t (by omega) (by omega) hai | (refine (decide_eq_false fun g => ?_).symm; have g2 := g.2 i (by omega); have r0 := g2 0 (by omega); have r1 := g2 1 (by omega); simp_all; done))
theorem reqPt_p (n m : Nat) (P Q : Nat → Nat → Int) (hn : n ≤ 9223372036854775807) (hm : m ≤ 9223372036854775807) : CallsP Tryz.prog 134 [.one (.lst 2 n (ptI P)), .one (.lst 2 m (ptI Q))] (.t (.one (.g (.bool (eqLB 2 n m P Q))))) := by
  refine CallsP_of Tryz.func134 rfl (by rw [Tryz.ntmps134]; simp) ?_
  simp only [Tryz.ntmps134, zM, PT.tv, argEnv, Nat.zero_add, Nat.reduceAdd]
  repeat' (first
 | ((with_reducible show AW _ _ _ _); first
 | (with_reducible first | refine aS (fun K hK => ?_) | refine aI ?_ | refine aX ?_ | refine aT ?_ | refine aC ?_ | refine aB ?_)
 | (first
 | (with_reducible first | refine aP 0 [0,1] ?_ | refine aP 1 [0,1] ?_ | refine aP 2 [] ?_ | refine aP 3 [0,1] ?_ | refine aP 4 [0,1,5] ?_ | refine aP 5 [0,1,5] ?_)
 | ((with_reducible refine aR (c := Code.region 6 _ true) [0,1,5] ?_); (with_reducible refine aD ?_ ?_ ?_ ?_); (focus kernel_rfl); (focus kernel_rfl); (focus kernel_rfl))
 | (with_reducible first | refine aP 7 [] ?_ | refine aP 8 [] ?_))
 | ((with_reducible show AW _ (Code.loop _) _ _); first
 | ((with_reducible refine aL (c := (Code.seq (Code.seq (Code.region 4 _ _) _) _)) (ι := Nat) [0,1] (fun i => [(5, iA .i64 (i : Int))]) (fun i => []) (fun i => i ≤ n ∧ (∀ i', i' < i → eqI 2 P Q i')) (fun i => n - i) 0 ?lg4 ?l14 ?l24 ?li4 ?lr4); (case' lg4 => rintro i _); (case' li4 => try (exact ⟨Nat.zero_le _, fun i hi => absurd hi (Nat.not_lt_zero _)⟩)); (case' lr4 => rintro i ⟨hi, hai⟩ KR hR4; simp only [keepE, hupd, hset, lk, if_true, if_false, xE, reduceIte, zN, Go.Sea.cmpS]))))
 | (((with_reducible refine And.intro ?_ ?_)); focus (omega))
 | (with_reducible refine retK_n ?_)
 | ((with_reducible show condN _ _ _ _ _ _); first
 | ((with_reducible refine condN_t ?_ ?_) <;> (intro hc; (try simp only [zB, zC, reduceCtorEq] at hc); (try (exfalso; contradiction)))))
 | ((with_reducible refine And.intro ?_ ?_); focus ((with_reducible show chkR _ _ _ = true); kernel_rfl))
 | ((with_reducible refine hR4 _ (i + 1) ?_); (try clear hR4 KR))
 | ((with_reducible refine Told.mk ?_); simp only [go_sem, reduceIte, reduceCtorEq, xA, xL, xD, xE, xM, xS, xB, ptI, Go.Sea.cmpS] <;> ((((try simp (disch := omega) only [seaWrap, Int.natCast_add, Int.cast_ofNat_Int, and_true, true_and, and_self]); (repeat' (first | omega | (with_reducible refine And.intro ?_ ?_) | ((exact all_succ (by assumption) (by (intro o ho; rcases o with _ | _ | o <;> first | omega | (simp_all; done))))))); done))))
 | ((fail_if_success (with_reducible show AW _ _ _ _)); simp (maxSteps := 2000000) only [go_sem, reduceIte, reduceCtorEq, xA, xL, xD, xE, xM, xS, xB, Tryz.f134, ptI, Go.Sea.cmpS])
 | ((with_reducible refine hK _ ?_); clear hK K)
 | (with_reducible apply_assumption -exfalso only [*]))
  all_goals (first | exact eqL_f0 (by omega) | exact eqL_t (by omega) (by omega) hai | (refine (decide_eq_false fun g => ?_).symm; have g2 := g.2 i (by omega); have r0 := g2 0 (by omega); have r1 := g2 1 (by omega); simp_all; done))
theorem eqSec_p (n m : Nat) (P Q : Nat → Nat → Int) (hn : n ≤ 9223372036854775807) (hm : m ≤ 9223372036854775807) : CallsP Tryz.prog 115 [.one (.lst 6 n (ptI P)), .one (.lst 6 m (ptI Q))] (.t (.one (.g (.bool (eqLB 6 n m P Q))))) := by
  refine CallsP_of Tryz.func115 rfl (by rw [Tryz.ntmps115]; simp) ?_
  simp only [Tryz.ntmps115, zM, PT.tv, argEnv, Nat.zero_add, Nat.reduceAdd]
  repeat' (first
 | ((with_reducible show AW _ _ _ _); first
 | (with_reducible first | refine aS (fun K hK => ?_) | refine aI ?_ | refine aX ?_ | refine aT ?_ | refine aC ?_ | refine aB ?_)
 | (first
 | (with_reducible first | refine aP 0 [0,1] ?_ | refine aP 1 [0,1] ?_ | refine aP 2 [] ?_ | refine aP 3 [0,1] ?_ | refine aP 4 [0,1,12,13] ?_ | refine aP 5 [0,1,12,13] ?_)
 | ((with_reducible refine aR (c := Code.region 6 _ true) [0,1,5,12,13] ?_); (with_reducible refine aD ?_ ?_ ?_ ?_); (focus kernel_rfl); (focus kernel_rfl); (focus kernel_rfl))
 | (with_reducible first | refine aP 7 [] ?_ | refine aP 8 [0,1,12,13] ?_ | refine aP 9 [] ?_))
 | ((with_reducible show AW _ (Code.loop _) _ _); first
 | ((with_reducible refine aL (c := (Code.seq (Code.region 4 _ _) _)) (ι := Nat) [0,1,12] (fun i => [(13, iA .i64 (i : Int))]) (fun i => []) (fun i => i ≤ n ∧ (∀ i', i' < i → eqI 6 P Q i')) (fun i => n - i) 0 ?lg4 ?l14 ?l24 ?li4 ?lr4); (case' lg4 => rintro i _); (case' li4 => try (exact ⟨Nat.zero_le _, fun i hi => absurd hi (Nat.not_lt_zero _)⟩)); (case' lr4 => rintro i ⟨hi, hai⟩ KR hR4; simp only [keepE, hupd, hset, lk, if_true, if_false, xE, reduceIte, zN, Go.Sea.cmpS]))))
 | (((with_reducible refine And.intro ?_ ?_)); focus (omega))
 | (with_reducible refine retK_n ?_)
 | ((with_reducible show condN _ _ _ _ _ _); first
 | ((with_reducible refine condN_t ?_ ?_) <;> (intro hc; (try simp only [zB, zC, reduceCtorEq] at hc); (try (exfalso; contradiction)))))
 | ((with_reducible refine And.intro ?_ ?_); focus ((with_reducible show chkR _ _ _ = true); kernel_rfl))
 | ((with_reducible refine hR4 _ (i + 1) ?_); (try clear hR4 KR))
 | ((with_reducible refine Told.mk ?_); simp only [go_sem, reduceIte, reduceCtorEq, xA, xL, xD, xE, xM, xS, xB, ptI, Go.Sea.cmpS] <;> ((((try simp (disch := omega) only [seaWrap, Int.natCast_add, Int.cast_ofNat_Int, and_true, true_and, and_self]); (repeat' (first | omega | (with_reducible refine And.intro ?_ ?_) | ((exact all_succ (by assumption) (by (intro o ho; rcases o with _ | _ | _ | _ | _ | _ | o <;> first | omega | (simp_all; done))))))); done))))
 | ((fail_if_success (with_reducible show AW _ _ _ _)); simp (maxSteps := 2000000) only [go_sem, reduceIte, reduceCtorEq, xA, xL, xD, xE, xM, xS, xB, Tryz.f115, ptI, Go.Sea.cmpS])
 | ((with_reducible refine hK _ ?_); clear hK K)
 | (with_reducible apply_assumption -exfalso only [*]))
  all_goals (first | exact eqL_f0 (by omega) | exact eqL_t (by omega) (by omega) hai | (refine (decide_eq_false fun g => ?_).symm; have g2 := g.2 i (by omega); have r0 := g2 0 (by omega); have r1 := g2 1 (by omega); have r2 := g2 2 (by omega); have r3 := g2 3 (by omega); have r4 := g2 4 (by omega); have r5 := g2 5 (by omega); simp_all; done))
theorem reqSec_p (n m : Nat) (P Q : Nat → Nat → Int) (hn : n ≤ 9223372036854775807) (hm : m ≤ 9223372036854775807) : CallsP Tryz.prog 135 [.one (.lst 6 n (ptI P)), .one (.lst 6 m (ptI Q))] (.t (.one (.g (.bool (eqLB 6 n m P Q))))) := by
  refine CallsP_of Tryz.func135 rfl (by rw [Tryz.ntmps135]; simp) ?_
  simp only [Tryz.ntmps135, zM, PT.tv, argEnv, Nat.zero_add, Nat.reduceAdd]
  repeat' (first
 | ((with_reducible show AW _ _ _ _); first
 | (with_reducible first | refine aS (fun K hK => ?_) | refine aI ?_ | refine aX ?_ | refine aT ?_ | refine aC ?_ | refine aB ?_)
 | (first
 | (with_reducible first | refine aP 0 [0,1] ?_ | refine aP 1 [0,1] ?_ | refine aP 2 [] ?_ | refine aP 3 [0,1] ?_ | refine aP 4 [0,1,5] ?_ | refine aP 5 [0,1,5] ?_)
 | ((with_reducible refine aR (c := Code.region 6 _ true) [0,1,5] ?_); (with_reducible refine aD ?_ ?_ ?_ ?_); (focus kernel_rfl); (focus kernel_rfl); (focus kernel_rfl))
 | (with_reducible first | refine aP 7 [] ?_ | refine aP 8 [] ?_))
 | ((with_reducible show AW _ (Code.loop _) _ _); first
 | ((with_reducible refine aL (c := (Code.seq (Code.seq (Code.region 4 _ _) _) _)) (ι := Nat) [0,1] (fun i => [(5, iA .i64 (i : Int))]) (fun i => []) (fun i => i ≤ n ∧ (∀ i', i' < i → eqI 6 P Q i')) (fun i => n - i) 0 ?lg4 ?l14 ?l24 ?li4 ?lr4); (case' lg4 => rintro i _); (case' li4 => try (exact ⟨Nat.zero_le _, fun i hi => absurd hi (Nat.not_lt_zero _)⟩)); (case' lr4 => rintro i ⟨hi, hai⟩ KR hR4; simp only [keepE, hupd, hset, lk, if_true, if_false, xE, reduceIte, zN, Go.Sea.cmpS]))))
 | (((with_reducible refine And.intro ?_ ?_)); focus (omega))
 | (with_reducible refine retK_n ?_)
 | ((with_reducible show condN _ _ _ _ _ _); first
 | ((with_reducible refine condN_t ?_ ?_) <;> (intro hc; (try simp only [zB, zC, reduceCtorEq] at hc); (try (exfalso; contradiction)))))
 | ((with_reducible refine And.intro ?_ ?_); focus ((with_reducible show chkR _ _ _ = true); kernel_rfl))
 | ((with_reducible refine hR4 _ (i + 1) ?_); (try clear hR4 KR))
 | ((with_reducible refine Told.mk ?_); simp only [go_sem, reduceIte, reduceCtorEq, xA, xL, xD, xE, xM, xS, xB, ptI, Go.Sea.cmpS] <;> ((((try simp (disch := omega) only [seaWrap, Int.natCast_add, Int.cast_ofNat_Int, and_true, true_and, and_self]); (repeat' (first | omega | (with_reducible refine And.intro ?_ ?_) | ((exact all_succ (by assumption) (by (intro o ho; rcases o with _ | _ | _ | _ | _ | _ | o <;> first | omega | (simp_all; done))))))); done))))
 | ((fail_if_success (with_reducible show AW _ _ _ _)); simp (maxSteps := 2000000) only [go_sem, reduceIte, reduceCtorEq, xA, xL, xD, xE, xM, xS, xB, Tryz.f135, ptI, Go.Sea.cmpS])
 | ((with_reducible refine hK _ ?_); clear hK K)
 | (with_reducible apply_assumption -exfalso only [*]))
  all_goals (first | exact eqL_f0 (by omega) | exact eqL_t (by omega) (by omega) hai | (refine (decide_eq_false fun g => ?_).symm; have g2 := g.2 i (by omega); have r0 := g2 0 (by omega); have r1 := g2 1 (by omega); have r2 := g2 2 (by omega); have r3 := g2 3 (by omega); have r4 := g2 4 (by omega); have r5 := g2 5 (by omega); simp_all; done))
end Go.Proofs.YtdhgiklbkmkblaaGreat
set_option maxRecDepth 100000
set_option maxHeartbeats 4000000
namespace Go.Proofs.YtdhgiklbkmkblaaGreat
open Go.RowKit Go.Sea
open Nat renaming reduceAdd → xA, reduceLT → xL, reduceLeDiff → xD, reduceEqDiff → xE, reduceMul → xM, reduceSub → xS, reduceBEq → xB
theorem fnok_114 : fnOk Tryz.prog 114 = true := by kernel_rfl
theorem fnok_115 : fnOk Tryz.prog 115 = true := by kernel_rfl
theorem fnok_134 : fnOk Tryz.prog 134 = true := by kernel_rfl
theorem fnok_135 : fnOk Tryz.prog 135 = true := by kernel_rfl
theorem fnok_146 : fnOk Tryz.prog 146 = true := by kernel_rfl
theorem fnok_147 : fnOk Tryz.prog 147 = true := by kernel_rfl
theorem fnok_148 : fnOk Tryz.prog 148 = true := by kernel_rfl
theorem fnok_154 : fnOk Tryz.prog 154 = true := by kernel_rfl
theorem fnok_156 : fnOk Tryz.prog 156 = true := by kernel_rfl
theorem fnok_157 : fnOk Tryz.prog 157 = true := by kernel_rfl
theorem fnok_158 : fnOk Tryz.prog 158 = true := by kernel_rfl
theorem fnok_159 : fnOk Tryz.prog 159 = true := by kernel_rfl
theorem of_75_0 : offOf Tryz.prog 75 0 = some 0 := by kernel_rfl
theorem of_75_1 : offOf Tryz.prog 75 1 = some 1 := by kernel_rfl
theorem of_75_2 : offOf Tryz.prog 75 2 = some 2 := by kernel_rfl
theorem of_75_3 : offOf Tryz.prog 75 3 = some 4 := by kernel_rfl
theorem of_75_4 : offOf Tryz.prog 75 4 = some 5 := by kernel_rfl
theorem of_75_5 : offOf Tryz.prog 75 5 = some 6 := by kernel_rfl
theorem of_75_6 : offOf Tryz.prog 75 6 = some 7 := by kernel_rfl
theorem of_75_7 : offOf Tryz.prog 75 7 = some 8 := by kernel_rfl
theorem ty_72 : tyD Tryz.prog 72 = some (false, 1) := by kernel_rfl
theorem ty_73 : tyD Tryz.prog 73 = some (false, 1) := by kernel_rfl
attribute [go_sem] fnok_114 fnok_115 fnok_134 fnok_135 fnok_146 fnok_147 fnok_148 fnok_154 fnok_156 fnok_157 fnok_158 fnok_159 of_75_0 of_75_1 of_75_2 of_75_3 of_75_4 of_75_5 of_75_6 of_75_7 ty_72 ty_73
structure Feat where
  id : Int
  kd : Int
  x : Int
  y : Int
  r : Int
  n : Nat
  P : Nat → Nat → Int
  d : Int
  s : Int
  m : Nat
  S : Nat → Nat → Int
structure Feat.Ok (f : Feat) : Prop where
  n : f.n ≤ 9223372036854775807
  m : f.m ≤ 9223372036854775807
def roomB (x y r : Int) : Bool := ptB (x - r) (y - r) && ptB (x + r) (y + r)
def featC (id kd x y r : Int) (n : Nat) (d s : Int) (m : Nat) (pt rm po se : Bool) : Prop :=
  (1 ≤ id ∧ id ≤ 100000) ∧ (0 ≤ s ∧ s ≤ 999) ∧ (0 ≤ d ∧ d ≤ 100000) ∧ (0 ≤ r ∧ r ≤ 100000) ∧
  ((kd = 1 ∨ kd = 2 ∨ kd = 5) ∧ pt = true ∧ rm = true ∧ n = 0 ∧ m = 0 ∨ (kd = 3 ∨ kd = 6) ∧ (kd = 6 → d = 0) ∧ po = true ∧ x = 0 ∧ y = 0 ∧ r = 0 ∧ m = 0 ∨ kd = 4 ∧ pt = true ∧ se = true ∧ r = 0 ∧ d = 0 ∧ n = 0)
instance (id kd x y r : Int) (n : Nat) (d s : Int) (m : Nat) (pt rm po se : Bool) : Decidable (featC id kd x y r n d s m pt rm po se) := by unfold featC; infer_instance
def featB (f : Feat) : Bool := decide (featC f.id f.kd f.x f.y f.r f.n f.d f.s f.m (ptB f.x f.y) (roomB f.x f.y f.r) (polB f.n f.P) (secsB f.m f.S))
def feqB (f g : Feat) : Bool := decide (f.id = g.id ∧ f.kd = g.kd ∧ f.x = g.x ∧ f.y = g.y ∧ f.r = g.r ∧ f.d = g.d ∧ f.s = g.s) && (eqLB 2 f.n g.n f.P g.P && eqLB 6 f.m g.m f.S g.S)
theorem roomB_iff (x y r : Int) : roomB x y r = true ↔ (-1000000 ≤ x - r ∧ x - r ≤ 1000000 ∧ -1000000 ≤ y - r ∧ y - r ≤ 1000000) ∧ (-1000000 ≤ x + r ∧ x + r ≤ 1000000 ∧ -1000000 ≤ y + r ∧ y + r ≤ 1000000) := by
  unfold roomB ptB; simp only [Bool.and_eq_true, decide_eq_true_eq, and_assoc]
theorem ptB_iff (x y : Int) : ptB x y = true ↔ (-1000000 ≤ x ∧ x ≤ 1000000 ∧ -1000000 ≤ y ∧ y ≤ 1000000) := by
  unfold ptB; simp only [Bool.and_eq_true, decide_eq_true_eq, and_assoc]
theorem feat_iff (f : Feat) : featB f = true ↔ featC f.id f.kd f.x f.y f.r f.n f.d f.s f.m (ptB f.x f.y) (roomB f.x f.y f.r) (polB f.n f.P) (secsB f.m f.S) := decide_eq_true_iff
def rngF (f : Feat) : Prop := (1 ≤ f.id ∧ f.id ≤ 100000) ∧ (0 ≤ f.s ∧ f.s ≤ 999) ∧ (0 ≤ f.d ∧ f.d ≤ 100000) ∧ (0 ≤ f.r ∧ f.r ≤ 100000)
theorem feat_0 {f : Feat} (h : ¬ rngF f) : false = featB f := (decide_eq_false fun g => h ⟨g.1, g.2.1, g.2.2.1, g.2.2.2.1⟩).symm
theorem feat_k {f : Feat} (h : f.kd ≠ 1 ∧ f.kd ≠ 2 ∧ f.kd ≠ 5 ∧ f.kd ≠ 6 ∧ f.kd ≠ 3 ∧ f.kd ≠ 4) : false = featB f := (decide_eq_false fun g => by
  rcases g.2.2.2.2 with k | k | k <;> omega).symm
theorem feat_6 {f : Feat} (h : f.kd = 6) (hd : f.d > 0) : false = featB f := (decide_eq_false fun g => by
  rcases g.2.2.2.2 with k | k | k
  · omega
  · have := k.2.1 h; omega
  · omega).symm
theorem feat_d {f : Feat} (hr : rngF f) (hk : f.kd = 1 ∨ f.kd = 2 ∨ f.kd = 5) : (ptB f.x f.y && roomB f.x f.y f.r && (f.n : Int) == 0 && (f.m : Int) == 0) = featB f := by
  refine Bool.eq_iff_iff.2 ?_
  rw [feat_iff]; unfold featC; simp only [Bool.and_eq_true, beq_iff_eq]
  constructor
  · rintro ⟨⟨⟨h1, h2⟩, h3⟩, h4⟩; exact ⟨hr.1, hr.2.1, hr.2.2.1, hr.2.2.2, Or.inl ⟨hk, h1, h2, by omega, by omega⟩⟩
  · rintro ⟨_, _, _, _, h | h | h⟩
    · exact ⟨⟨⟨h.2.1, h.2.2.1⟩, by omega⟩, by omega⟩
    · omega
    · omega
theorem feat_p {f : Feat} (hr : rngF f) (hk : f.kd = 3 ∨ f.kd = 6) (hd : f.kd = 6 → f.d = 0) : (polB f.n f.P && (f.x == 0 && f.y == 0) && f.r == 0 && (f.m : Int) == 0) = featB f := by
  refine Bool.eq_iff_iff.2 ?_
  rw [feat_iff]; unfold featC; simp only [Bool.and_eq_true, beq_iff_eq]
  constructor
  · rintro ⟨⟨⟨h1, h2⟩, h3⟩, h4⟩; exact ⟨hr.1, hr.2.1, hr.2.2.1, hr.2.2.2, Or.inr (Or.inl ⟨hk, hd, h1, h2.1, h2.2, h3, by omega⟩)⟩
  · rintro ⟨_, _, _, _, h | h | h⟩
    · omega
    · exact ⟨⟨⟨h.2.2.1, h.2.2.2.1, h.2.2.2.2.1⟩, h.2.2.2.2.2.1⟩, by omega⟩
    · omega
theorem feat_l {f : Feat} (hr : rngF f) (hk : f.kd = 4) : (ptB f.x f.y && secsB f.m f.S && f.r == 0 && f.d == 0 && (f.n : Int) == 0) = featB f := by
  refine Bool.eq_iff_iff.2 ?_
  rw [feat_iff]; unfold featC; simp only [Bool.and_eq_true, beq_iff_eq]
  constructor
  · rintro ⟨⟨⟨⟨h1, h2⟩, h3⟩, h4⟩, h5⟩; exact ⟨hr.1, hr.2.1, hr.2.2.1, hr.2.2.2, Or.inr (Or.inr ⟨hk, h1, h2, h3, h4, by omega⟩)⟩
  · rintro ⟨_, _, _, _, h | h | h⟩
    · omega
    · omega
    · exact ⟨⟨⟨⟨h.2.1, h.2.2.1⟩, h.2.2.2.1⟩, h.2.2.2.2.1⟩, by omega⟩
theorem feat_d2 {f : Feat} (hr : rngF f) (hk : f.kd = 1 ∨ f.kd = 2 ∨ f.kd = 5) : (ptB f.x f.y && decide (-1000000 ≤ f.x - f.r ∧ f.x + f.r ≤ 1000000) && decide (-1000000 ≤ f.y - f.r ∧ f.y + f.r ≤ 1000000) && (f.n : Int) == 0 && (f.m : Int) == 0) = featB f := by
  rw [← feat_d hr hk]
  have h4 := hr.2.2.2
  refine Bool.eq_iff_iff.2 ?_
  simp only [Bool.and_eq_true, decide_eq_true_eq, roomB_iff, ptB_iff, beq_iff_eq]
  omega
theorem feat_p2 {f : Feat} (hr : rngF f) (hk : f.kd = 3 ∨ f.kd = 6) : (polB f.n f.P && (f.x == 0 && f.y == 0) && f.r == 0 && (f.m : Int) == 0 && (f.kd == 3 || f.d == 0)) = featB f := by
  by_cases h : f.kd = 3
  · rw [← feat_p hr hk (fun h' => by omega), h]; simp
  · by_cases hd : f.d = 0
    · rw [← feat_p hr hk (fun _ => hd), hd]; simp
    · have := hr.2.2.1
      rw [← feat_6 (f := f) (by omega) (by omega)]; simp [h, hd]
theorem feat_l2 {f : Feat} (hr : rngF f) (hk : f.kd ≠ 1 ∧ f.kd ≠ 2 ∧ f.kd ≠ 5) (hk2 : f.kd ≠ 3 ∧ f.kd ≠ 6) : (f.kd == 4 && ptB f.x f.y && secsB f.m f.S && f.r == 0 && f.d == 0 && (f.n : Int) == 0) = featB f := by
  by_cases h : f.kd = 4
  · rw [← feat_l hr h, h]; simp
  · rw [← feat_k (f := f) (by omega)]; simp [h]
theorem froom_p (x y r : Int) (hp : ptB x y = true) (hr : 0 ≤ r ∧ r ≤ 100000) : CallsP Tryz.prog 146 [.agg [.g (.int .i64 (x)), .g (.int .i64 (y))], .one (.g (.int .i64 r))] (.t (.one (.g (.bool (roomB x y r))))) := by
  have hq := (ptB_iff _ _).1 hp
  refine CallsP_of Tryz.func146 rfl (by rw [Tryz.ntmps146]; simp) ?_
  simp only [Tryz.ntmps146, zM, PT.tv, argEnv, Nat.zero_add, Nat.reduceAdd]
  repeat' (first
 | ((with_reducible show AW _ _ _ _); first
 | (with_reducible first | refine aS (fun K hK => ?_) | refine aT ?_)
 | (first
 | (with_reducible first | refine aP 0 [0,1] ?_ | refine aP 1 [1,2] ?_)))
 | (((with_reducible refine Need.mk ?_)); focus (first | exact True.intro | (intro _; (with_reducible assumption))))
 | (with_reducible refine retK_n ?_)
 | ((with_reducible show callN _ _ _ _ _ _ _ _ _ _); first
 | (refine callN_q (k := 145) fnok_145 (ptV_p _ _) ?_ ?_))
 | ((with_reducible show callGN _ _ _ _ _ _ _ _ _ _); first
 | (refine callGN_q (k := 145) fnok_145 (fun hg => ptV_p _ _) ?_ ?_))
 | ((fail_if_success (with_reducible show AW _ _ _ _)); simp (maxSteps := 2000000) only [go_sem, reduceIte, reduceCtorEq, xA, xL, xD, xE, xM, xS, xB, Tryz.f146])
 | ((fail_if_success (with_reducible show AW _ _ _ _)); simp (disch := omega) only [seaWrap, seaDiv, seaMod])
 | ((with_reducible refine hK _ ?_); clear hK K))
  all_goals ((unfold roomB; simp_all; done))
theorem nroom_p (x y r : Int) (hp : ptB x y = true) (hr : 0 ≤ r ∧ r ≤ 100000) : CallsP Tryz.prog 152 [.agg [.g (.int .i64 (x)), .g (.int .i64 (y))], .one (.g (.int .i64 r))] (.t (.one (.g (.bool (roomB x y r))))) := by
  have hq := (ptB_iff _ _).1 hp
  refine CallsP_of Tryz.func152 rfl (by rw [Tryz.ntmps152]; simp) ?_
  simp only [Tryz.ntmps152, zM, PT.tv, argEnv, Nat.zero_add, Nat.reduceAdd]
  repeat' (first
 | ((with_reducible show AW _ _ _ _); first
 | (with_reducible first | refine aS (fun K hK => ?_) | refine aT ?_)
 | (first
 | (with_reducible first | refine aP 0 [0,1] ?_ | refine aP 1 [1,2] ?_)))
 | (((with_reducible refine Need.mk ?_)); focus (first | exact True.intro | (intro _; (with_reducible assumption))))
 | (with_reducible refine retK_n ?_)
 | ((with_reducible show callN _ _ _ _ _ _ _ _ _ _); first
 | (refine callN_q (k := 145) fnok_145 (ptV_p _ _) ?_ ?_))
 | ((with_reducible show callGN _ _ _ _ _ _ _ _ _ _); first
 | (refine callGN_q (k := 145) fnok_145 (fun hg => ptV_p _ _) ?_ ?_))
 | ((fail_if_success (with_reducible show AW _ _ _ _)); simp (maxSteps := 2000000) only [go_sem, reduceIte, reduceCtorEq, xA, xL, xD, xE, xM, xS, xB, Tryz.f152])
 | ((fail_if_success (with_reducible show AW _ _ _ _)); simp (disch := omega) only [seaWrap, seaDiv, seaMod])
 | ((with_reducible refine hK _ ?_); clear hK K))
  all_goals ((unfold roomB; simp_all; done))
theorem rroom_p (x r : Int) (hx : -1000000 ≤ x ∧ x ≤ 1000000) (hr : 0 ≤ r ∧ r ≤ 100000) : CallsP Tryz.prog 156 [.one (.g (.int .i64 x)), .one (.g (.int .i64 r))] (.t (.one (.g (.bool (decide (-1000000 ≤ x - r ∧ x + r ≤ 1000000)))))) := by
  refine CallsP_of Tryz.func156 rfl (by rw [Tryz.ntmps156]; simp) ?_
  simp only [Tryz.ntmps156, zM, PT.tv, argEnv, Nat.zero_add, Nat.reduceAdd]
  repeat' (first
 | ((with_reducible show AW _ _ _ _); first
 | (with_reducible first | refine aS (fun K hK => ?_) | refine aT ?_)
 | (first
 | (with_reducible first | refine aP 0 [0,1] ?_ | refine aP 1 [0,1] ?_)))
 | (with_reducible refine retK_n ?_)
 | ((fail_if_success (with_reducible show AW _ _ _ _)); simp (maxSteps := 2000000) only [go_sem, reduceIte, reduceCtorEq, xA, xL, xD, xE, xM, xS, xB, Tryz.f156])
 | ((fail_if_success (with_reducible show AW _ _ _ _)); simp (disch := omega) only [seaWrap, seaDiv, seaMod])
 | ((with_reducible refine hK _ ?_); clear hK K))
  all_goals ((try refine Bool.eq_iff_iff.2 ?_); (simp only [Bool.and_eq_true, Bool.or_eq_true, Bool.not_eq_true', decide_eq_true_eq, decide_eq_false_iff_not, bne_iff_ne, beq_iff_eq, ne_eq, ge_iff_le, gt_iff_lt, cond_eq_ite, iff_self, eq_self]; done))
theorem rdisc_p (k : Int) : CallsP Tryz.prog 154 [.one (.g (.int .i64 k))] (.t (.one (.g (.bool (decide (k = 1 ∨ k = 2 ∨ k = 5)))))) := by
  refine CallsP_of Tryz.func154 rfl (by rw [Tryz.ntmps154]; simp) ?_
  simp only [Tryz.ntmps154, zM, PT.tv, argEnv, Nat.zero_add, Nat.reduceAdd]
  repeat' (first
 | ((with_reducible show AW _ _ _ _); first
 | (with_reducible first | refine aS (fun K hK => ?_) | refine aT ?_)
 | (first
 | (with_reducible first | refine aP 0 [0] ?_ | refine aP 1 [0] ?_)))
 | (((with_reducible refine And.intro ?_ ?_)); focus ((simp; done)))
 | (with_reducible refine retK_n ?_)
 | ((fail_if_success (with_reducible show AW _ _ _ _)); simp (maxSteps := 2000000) only [go_sem, reduceIte, reduceCtorEq, xA, xL, xD, xE, xM, xS, xB, Tryz.f154])
 | ((with_reducible refine hK _ ?_); clear hK K))
  all_goals ((try refine Bool.eq_iff_iff.2 ?_); (simp only [Bool.and_eq_true, Bool.or_eq_true, Bool.not_eq_true', decide_eq_true_eq, decide_eq_false_iff_not, bne_iff_ne, beq_iff_eq, ne_eq, ge_iff_le, gt_iff_lt, cond_eq_ite, iff_self, eq_self]; omega))
theorem rpolyg_p (k : Int) : CallsP Tryz.prog 157 [.one (.g (.int .i64 k))] (.t (.one (.g (.bool (decide (k = 3 ∨ k = 6)))))) := by
  refine CallsP_of Tryz.func157 rfl (by rw [Tryz.ntmps157]; simp) ?_
  simp only [Tryz.ntmps157, zM, PT.tv, argEnv, Nat.zero_add, Nat.reduceAdd]
  repeat' (first
 | ((with_reducible show AW _ _ _ _); first
 | (with_reducible first | refine aS (fun K hK => ?_) | refine aT ?_)
 | (first
 | (with_reducible first | refine aP 0 [0] ?_ | refine aP 1 [0] ?_)))
 | (((with_reducible refine And.intro ?_ ?_)); focus ((simp; done)))
 | (with_reducible refine retK_n ?_)
 | ((fail_if_success (with_reducible show AW _ _ _ _)); simp (maxSteps := 2000000) only [go_sem, reduceIte, reduceCtorEq, xA, xL, xD, xE, xM, xS, xB, Tryz.f157])
 | ((with_reducible refine hK _ ?_); clear hK K))
  all_goals ((try refine Bool.eq_iff_iff.2 ?_); (simp only [Bool.and_eq_true, Bool.or_eq_true, Bool.not_eq_true', decide_eq_true_eq, decide_eq_false_iff_not, bne_iff_ne, beq_iff_eq, ne_eq, ge_iff_le, gt_iff_lt, cond_eq_ite, iff_self, eq_self]; done))
theorem Feat_p (f : Feat) (ho : f.Ok) : CallsP Tryz.prog 113 [.agg [.g (.int .i64 (f.id)), .g (.int .i64 (f.kd)), .g (.int .i64 (f.x)), .g (.int .i64 (f.y)), .g (.int .i64 (f.r)), .lst 2 f.n (ptI f.P), .g (.int .i64 (f.d)), .g (.int .i64 (f.s)), .lst 6 f.m (ptI f.S)]] (.t (.one (.g (.bool (featB f))))) := by
  refine CallsP_of Tryz.func113 rfl (by rw [Tryz.ntmps113]; simp) ?_
  simp only [Tryz.ntmps113, zM, PT.tv, argEnv, Nat.zero_add, Nat.reduceAdd]
  repeat' (first
 | ((with_reducible show AW _ _ _ _); first
 | (with_reducible first | refine aS (fun K hK => ?_) | refine aI ?_ | refine aX ?_ | refine aT ?_ | refine aC ?_ | refine aB ?_)
 | (first
 | (with_reducible first | refine aP 0 [0] ?_ | refine aP 1 [1] ?_ | refine aP 2 [] ?_ | refine aP 3 [1] ?_ | refine aP 4 [1,42] ?_ | refine aP 5 [1,42] ?_ | refine aP 6 [1,42] ?_ | refine aP 7 [1,42] ?_ | refine aP 8 [1,42] ?_ | refine aP 9 [1,42] ?_ | refine aP 10 [1] ?_ | refine aP 11 [1] ?_ | refine aP 12 [] ?_ | refine aP 13 [1] ?_ | refine aP 14 [1] ?_ | refine aP 15 [] ?_)))
 | ((first | (with_reducible refine And.intro ?_ ?_) | (with_reducible refine Need.mk ?_)); focus (first | exact True.intro | (intro _; (with_reducible assumption)) | (simp; done)))
 | (with_reducible refine retK_n ?_)
 | ((with_reducible show condN _ _ _ _ _ _); first
 | ((with_reducible refine condN_t ?_ ?_) <;> (intro hc; (try simp only [zB, zC, reduceCtorEq] at hc); (try (exfalso; contradiction)))))
 | ((with_reducible show callN _ _ _ _ _ _ _ _ _ _); first
 | (refine callN_q (k := 145) fnok_145 (ptV_p _ _) ?_ ?_)
 | (refine callN_q (k := 147) fnok_147 (Pol_p _ _ ho.n) ?_ ?_))
 | ((with_reducible show callGN _ _ _ _ _ _ _ _ _ _); first
 | (refine callGN_q (k := 146) fnok_146 (fun hg => froom_p _ _ _ (by assumption) (by omega)) ?_ ?_)
 | (refine callGN_q (k := 148) fnok_148 (fun hg => Secs_p _ _ (by have := ho.m; omega)) ?_ ?_))
 | ((fail_if_success (with_reducible show AW _ _ _ _)); simp (maxSteps := 2000000) only [go_sem, reduceIte, reduceCtorEq, xA, xL, xD, xE, xM, xS, xB, Tryz.f113, Go.Sea.cmpS])
 | ((with_reducible refine hK _ ?_); clear hK K)
 | (with_reducible apply_assumption -exfalso only [*]))
  all_goals (first | exact feat_0 (by unfold rngF; omega) | exact feat_6 (by omega) (by omega) | exact feat_k (by omega) | exact feat_d (by unfold rngF; omega) (by omega) | exact feat_p (by unfold rngF; omega) (by omega) (by omega) | exact feat_l (by unfold rngF; omega) (by omega))
theorem rFeat_p (f : Feat) (ho : f.Ok) : CallsP Tryz.prog 128 [.agg [.g (.int .i64 (f.id)), .g (.int .i64 (f.kd)), .g (.int .i64 (f.x)), .g (.int .i64 (f.y)), .g (.int .i64 (f.r)), .lst 2 f.n (ptI f.P), .g (.int .i64 (f.d)), .g (.int .i64 (f.s)), .lst 6 f.m (ptI f.S)]] (.t (.one (.g (.bool (featB f))))) := by
  refine CallsP_of Tryz.func128 rfl (by rw [Tryz.ntmps128]; simp) ?_
  simp only [Tryz.ntmps128, zM, PT.tv, argEnv, Nat.zero_add, Nat.reduceAdd]
  repeat' (first
 | ((with_reducible show AW _ _ _ _); first
 | (with_reducible first | refine aS (fun K hK => ?_) | refine aI ?_ | refine aT ?_ | refine aC ?_)
 | (first
 | (with_reducible first | refine aP 0 [0] ?_ | refine aP 1 [1] ?_ | refine aP 2 [] ?_ | refine aP 3 [1] ?_ | refine aP 4 [1] ?_ | refine aP 5 [1] ?_ | refine aP 6 [1] ?_ | refine aP 7 [1] ?_)))
 | ((first | (with_reducible refine And.intro ?_ ?_) | (with_reducible refine Need.mk ?_)); focus (first | exact True.intro | (intro _; (with_reducible assumption)) | (simp; done) | (simp +contextual; done)))
 | (with_reducible refine retK_n ?_)
 | ((with_reducible show condN _ _ _ _ _ _); first
 | ((with_reducible refine condN_t ?_ ?_) <;> (intro hc; (try simp only [zB, zC, reduceCtorEq] at hc); (try (exfalso; contradiction)))))
 | ((with_reducible show callN _ _ _ _ _ _ _ _ _ _); first
 | (refine callN_q (k := 155) fnok_155 (rptV_p _ _) ?_ ?_)
 | (refine callN_q (k := 154) fnok_154 (rdisc_p _) ?_ ?_)
 | (refine callN_q (k := 157) fnok_157 (rpolyg_p _) ?_ ?_)
 | (refine callN_q (k := 158) fnok_158 (rPol_p _ _ ho.n) ?_ ?_))
 | ((with_reducible show callGN _ _ _ _ _ _ _ _ _ _); first
 | (refine callGN_q (k := 155) fnok_155 (fun hg => rptV_p _ _) ?_ ?_)
 | (refine callGN_q (k := 156) fnok_156 (fun hg => rroom_p f.x _ (by have := (ptB_iff _ _).1 (by assumption); omega) (by omega)) ?_ ?_)
 | (refine callGN_q (k := 156) fnok_156 (fun hg => rroom_p f.y _ (by have h1 : ptB f.x f.y = true := (by simp only [Bool.and_eq_true] at hg; exact hg.1); have := (ptB_iff _ _).1 h1; omega) (by omega)) ?_ ?_)
 | (refine callGN_q (k := 159) fnok_159 (fun hg => rSecs_p _ _ (by have := ho.m; omega)) ?_ ?_))
 | ((fail_if_success (with_reducible show AW _ _ _ _)); simp (maxSteps := 2000000) only [go_sem, reduceIte, reduceCtorEq, xA, xL, xD, xE, xM, xS, xB, Tryz.f128, Go.Sea.cmpS])
 | ((with_reducible refine hK _ ?_); clear hK K))
  all_goals (first | exact feat_0 (by unfold rngF; omega) | exact feat_d2 (by unfold rngF; omega) (by omega) | exact feat_p2 (by unfold rngF; omega) (by omega) | exact feat_l2 (by unfold rngF; omega) (by omega) (by omega))
theorem fsame_p (f g : Feat) (ho : f.Ok) (ho2 : g.Ok) : CallsP Tryz.prog 74 [.agg [.g (.int .i64 (f.id)), .g (.int .i64 (f.kd)), .g (.int .i64 (f.x)), .g (.int .i64 (f.y)), .g (.int .i64 (f.r)), .lst 2 f.n (ptI f.P), .g (.int .i64 (f.d)), .g (.int .i64 (f.s)), .lst 6 f.m (ptI f.S)], .agg [.g (.int .i64 (g.id)), .g (.int .i64 (g.kd)), .g (.int .i64 (g.x)), .g (.int .i64 (g.y)), .g (.int .i64 (g.r)), .lst 2 g.n (ptI g.P), .g (.int .i64 (g.d)), .g (.int .i64 (g.s)), .lst 6 g.m (ptI g.S)]] (.t (.one (.g (.bool (feqB f g))))) := by
  refine CallsP_of Tryz.func74 rfl (by rw [Tryz.ntmps74]; simp) ?_
  simp only [Tryz.ntmps74, zM, PT.tv, argEnv, Nat.zero_add, Nat.reduceAdd]
  repeat' (first
 | ((with_reducible show AW _ _ _ _); first
 | (with_reducible first | refine aS (fun K hK => ?_) | refine aT ?_)
 | (first
 | (with_reducible first | refine aP 0 [0,1] ?_ | refine aP 1 [2,3] ?_)))
 | (((with_reducible refine Need.mk ?_)); focus ((intro _; (with_reducible assumption))))
 | (with_reducible refine retK_n ?_)
 | ((with_reducible show callGN _ _ _ _ _ _ _ _ _ _); first
 | (refine callGN_q (k := 114) fnok_114 (fun hg => eqPt_p _ _ _ _ ho.n ho2.n) ?_ ?_)
 | (refine callGN_q (k := 115) fnok_115 (fun hg => eqSec_p _ _ _ _ ho.m ho2.m) ?_ ?_))
 | ((fail_if_success (with_reducible show AW _ _ _ _)); simp (maxSteps := 2000000) only [go_sem, reduceIte, reduceCtorEq, xA, xL, xD, xE, xM, xS, xB, Tryz.f74, Go.Sea.cmpS])
 | ((with_reducible refine hK _ ?_); clear hK K))
  all_goals ((unfold feqB; refine Bool.eq_iff_iff.2 ?_; simp only [decide_eq_true_eq, Bool.and_eq_true, beq_iff_eq]; constructor <;> (intro h; simp_all; done)))
theorem rfsame_p (f g : Feat) (ho : f.Ok) (ho2 : g.Ok) : CallsP Tryz.prog 92 [.agg [.g (.int .i64 (f.id)), .g (.int .i64 (f.kd)), .g (.int .i64 (f.x)), .g (.int .i64 (f.y)), .g (.int .i64 (f.r)), .lst 2 f.n (ptI f.P), .g (.int .i64 (f.d)), .g (.int .i64 (f.s)), .lst 6 f.m (ptI f.S)], .agg [.g (.int .i64 (g.id)), .g (.int .i64 (g.kd)), .g (.int .i64 (g.x)), .g (.int .i64 (g.y)), .g (.int .i64 (g.r)), .lst 2 g.n (ptI g.P), .g (.int .i64 (g.d)), .g (.int .i64 (g.s)), .lst 6 g.m (ptI g.S)]] (.t (.one (.g (.bool (feqB f g))))) := by
  refine CallsP_of Tryz.func92 rfl (by rw [Tryz.ntmps92]; simp) ?_
  simp only [Tryz.ntmps92, zM, PT.tv, argEnv, Nat.zero_add, Nat.reduceAdd]
  repeat' (first
 | ((with_reducible show AW _ _ _ _); first
 | (with_reducible first | refine aS (fun K hK => ?_) | refine aI ?_ | refine aT ?_ | refine aC ?_)
 | (first
 | (with_reducible first | refine aP 0 [0,1] ?_ | refine aP 1 [2,3] ?_ | refine aP 2 [] ?_ | refine aP 3 [2,3] ?_)))
 | ((first | (with_reducible refine And.intro ?_ ?_) | (with_reducible refine Need.mk ?_)); focus (first | exact True.intro | (intro _; (with_reducible assumption)) | (simp; done)))
 | (with_reducible refine retK_n ?_)
 | ((with_reducible show condN _ _ _ _ _ _); first
 | ((with_reducible refine condN_t ?_ ?_) <;> (intro hc; (try simp only [zB, zC, reduceCtorEq] at hc); (try (exfalso; contradiction)))))
 | ((with_reducible show callN _ _ _ _ _ _ _ _ _ _); first
 | (refine callN_q (k := 134) fnok_134 (reqPt_p _ _ _ _ ho.n ho2.n) ?_ ?_))
 | ((with_reducible show callGN _ _ _ _ _ _ _ _ _ _); first
 | (refine callGN_q (k := 135) fnok_135 (fun hg => reqSec_p _ _ _ _ ho.m ho2.m) ?_ ?_))
 | ((fail_if_success (with_reducible show AW _ _ _ _)); simp (maxSteps := 2000000) only [go_sem, reduceIte, reduceCtorEq, xA, xL, xD, xE, xM, xS, xB, Tryz.f92, Go.Sea.cmpS])
 | ((with_reducible refine hK _ ?_); clear hK K))
  all_goals (first | (unfold feqB; refine Bool.eq_iff_iff.2 ?_; simp only [decide_eq_true_eq, Bool.and_eq_true, beq_iff_eq, reduceCtorEq, false_iff]; omega) | (unfold feqB; rw [decide_eq_true (by omega)]; rfl))
end Go.Proofs.YtdhgiklbkmkblaaGreat
