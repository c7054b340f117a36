/- Part 15 of 16: contracts of functions and plain laws for the root text. No condition. -/
import Derived.Test.YtdhgiklbkmkblaaGreatK01
import Derived.Test.YtdhgiklbkmkblaaGreatK02
import Derived.Test.YtdhgiklbkmkblaaGreatK03
import Derived.Test.YtdhgiklbkmkblaaGreatK04
import Derived.Test.YtdhgiklbkmkblaaGreatK05
import Derived.Test.YtdhgiklbkmkblaaGreatK06
import Derived.Test.YtdhgiklbkmkblaaGreatK07
import Derived.Test.YtdhgiklbkmkblaaGreatK08
import Derived.Test.YtdhgiklbkmkblaaGreatK09
import Derived.Test.YtdhgiklbkmkblaaGreatK10
import Derived.Test.YtdhgiklbkmkblaaGreatK11
import Derived.Test.YtdhgiklbkmkblaaGreatK12
import Derived.Test.YtdhgiklbkmkblaaGreatK13
import Derived.Test.YtdhgiklbkmkblaaGreatK14
set_option linter.unusedVariables false
set_option linter.unusedSimpArgs false
set_option maxRecDepth 100000
set_option maxHeartbeats 4000000
namespace Go.Proofs.YtdhgiklbkmkblaaGreat
open Go.RowKit Go.Sea
open Nat renaming reduceAdd → xA, reduceLT → xL, reduceLeDiff → xD, reduceEqDiff → xE, reduceMul → xM, reduceSub → xS, reduceBEq → xB
theorem fnok_41 : fnOk Tryz.prog 41 = true := by kernel_rfl
attribute [go_sem] fnok_41
theorem few_f1 {s : ShtS} {n : Nat} {N : Nat → NotS} (h : ((s.n : Int) > 20 ∨ (s.q : Int) > 30) ∨ (n : Int) > 10) : false = fewB s n N := (decide_eq_false fun g => by omega).symm
theorem few_f2 {s : ShtS} {n : Nat} {N : Nat → NotS} {i : Nat} (hi : (i : Int) < n) (h : lenP (N i) (N i).n > 200) : false = fewB s n N := (decide_eq_false fun g => by have := g.2.2.2 i (by omega); omega).symm
theorem few_t {s : ShtS} {n : Nat} {N : Nat → NotS} {i : Nat} (h : ((s.n : Int) ≤ 20 ∧ (s.q : Int) ≤ 30) ∧ (n : Int) ≤ 10) (hi : (n : Int) ≤ i) (g : ∀ j, j < i → lenP (N j) (N j).n ≤ 200) : true = fewB s n N := (decide_eq_true ⟨by omega, by omega, by omega, fun j hj => g j (by omega)⟩).symm
theorem rlen_p (N : NotS) (ho : N.Ok) : CallsP Tryz.prog 41 [(noP N)] (.t (.one (.g (.int .i64 (lenP N N.n))))) := by
  have hnn := ho.n
  refine CallsP_of Tryz.func41 rfl (by rw [Tryz.ntmps41]; simp) ?_
  simp only [noP, Tryz.ntmps41, zM, PT.tv, argEnv, Nat.zero_add, Nat.reduceAdd]
  repeat' (first
 | ((with_reducible show AW _ _ _ _); first
 | (with_reducible first | refine aS (fun K hK => ?_) | refine aI ?_ | refine aX ?_ | refine aT ?_ | refine aC ?_ | refine aB ?_)
 | (first
 | (with_reducible first | refine aP 0 [0] ?_ | refine aP 1 [1] ?_ | refine aP 2 [1,3] ?_ | refine aP 3 [1,3,4] ?_ | refine aP 4 [1,3,4] ?_ | refine aP 5 [1,3,4] ?_ | refine aP 6 [1,3,4,5] ?_ | refine aP 7 [1,3,4,5] ?_ | refine aP 8 [1,3,4,5,6] ?_ | refine aP 9 [1,3,4,5,6] ?_)
 | ((with_reducible refine aR (c := Code.region 10 _ true) [1,3,4,5,6] ?_); (with_reducible refine aD ?_ ?_ ?_ ?_); (focus kernel_rfl); (focus kernel_rfl); (focus kernel_rfl))
 | (with_reducible refine aP 11 [3] ?_))
 | ((with_reducible show AW _ (Code.loop _) _ _); first
 | ((with_reducible refine aL (c := (Code.seq (Code.seq (Code.region 3 _ _) _) _)) (ι := Nat) [1] (fun i => [(3, iA .i64 (lenP N i)), (4, iA .i64 (i : Int))]) (fun i => []) (fun i => i ≤ N.n) (fun i => N.n - i) 0 ?lg3 ?l13 ?l23 ?li3 ?lr3); (case' lg3 => rintro i _); (case' li3 => try (omega)); (case' lr3 => rintro i hi KR hR3; simp only [keepE, hupd, hset, lk, if_true, if_false, xE, reduceIte, zN]))
 | ((with_reducible refine aL (c := (Code.seq (Code.seq (Code.region 8 _ _) _) _)) (ι := Nat) [1,4,5] (fun j => [(3, iA .i64 (lenO (N.p i) (w64 (w64 (lenP N i + ((N.p i).q : Int)) + ((N.p i).k : Int))) j)), (6, iA .i64 (j : Int))]) (fun j => []) (fun j => j ≤ (N.p i).k) (fun j => (N.p i).k - j) 0 ?lg8 ?l18 ?l28 ?li8 ?lr8); (case' lg8 => rintro j _); (case' li8 => try (omega)); (case' lr8 => rintro j hj KR hR8; simp only [keepE, hupd, hset, lk, if_true, if_false, xE, reduceIte, zN]))))
 | (((with_reducible refine And.intro ?_ ?_)); focus (omega))
 | (with_reducible refine retK_n ?_)
 | ((with_reducible show condN _ _ _ _ _ _); first
 | ((with_reducible refine condN_t ?_ ?_) <;> (intro hc; (try simp only [zB, zC, reduceCtorEq] at hc); ((try (have hoi := ho.p i (by omega); have hq1 := hoi.q; have hk1 := hoi.k; have hf1 := fun q h => (hoi.o q h).n; have hf2 := fun q h => (hoi.o q h).m)); (try (have e0 : i = N.n := (by omega); subst e0)); (try (have e0 : j = (N.p i).k := (by omega); subst e0))); (try (exfalso; contradiction)))))
 | ((with_reducible refine And.intro ?_ ?_); focus ((with_reducible show chkR _ _ _ = true); kernel_rfl))
 | ((with_reducible refine hR3 _ (i + 1) ?_); (try clear hR3 KR))
 | ((with_reducible refine hR8 _ (j + 1) ?_); (try clear hR8 KR))
 | ((with_reducible refine Told.mk ?_); simp only [go_sem, reduceIte, reduceCtorEq, xA, xL, xD, xE, xM, xS, xB, intI] <;> ((((try simp (disch := omega) only [seaWrap, Int.natCast_add, Int.cast_ofNat_Int, and_true, true_and, and_self]); (repeat' (first | omega | rfl | (with_reducible refine And.intro ?_ ?_))); done))))
 | ((fail_if_success (with_reducible show AW _ _ _ _)); simp (maxSteps := 2000000) only [go_sem, reduceIte, reduceCtorEq, xA, xL, xD, xE, xM, xS, xB, Tryz.f41, intI])
 | ((with_reducible refine hK _ ?_); clear hK K)
 | (with_reducible apply_assumption -exfalso only [*]))
theorem few_p (s : ShtS) (n : Nat) (N : Nat → NotS) (hs : s.Ok) (hn : n ≤ 9223372036854775807) (hN : ∀ i, i < n → (N i).Ok) : CallsP Tryz.prog 11 [(shP s), .one (.lst 7 n (notF N))] (.t (.one (.g (.bool (fewB s n N))))) := by
  have hsn := hs.n
  have hsq := hs.q
  refine CallsP_of Tryz.func11 rfl (by rw [Tryz.ntmps11]; simp) ?_
  simp only [shP, Tryz.ntmps11, zM, PT.tv, argEnv, Nat.zero_add, Nat.reduceAdd]
  repeat' (first
 | ((with_reducible show AW _ _ _ _); first
 | (with_reducible first | refine aS (fun K hK => ?_) | refine aI ?_ | refine aX ?_ | refine aT ?_ | refine aC ?_ | refine aB ?_)
 | (first
 | (with_reducible first | refine aP 0 [0,1] ?_ | refine aP 1 [1,2] ?_ | refine aP 2 [] ?_ | refine aP 3 [1] ?_ | refine aP 4 [1,5] ?_ | refine aP 5 [1,5] ?_ | refine aP 6 [1,5] ?_ | refine aP 7 [] ?_ | refine aP 8 [] ?_))
 | ((with_reducible show AW _ (Code.loop _) _ _); first
 | ((with_reducible refine aL (c := (Code.seq (Code.seq (Code.region 4 _ _) _) _)) (ι := Nat) [1] (fun i => [(5, iA .i64 (i : Int))]) (fun i => []) (fun i => i ≤ n ∧ (∀ j, j < i → lenP (N j) (N j).n ≤ 200)) (fun i => n - i) 0 ?lg4 ?l14 ?l24 ?li4 ?lr4); (case' lg4 => rintro i _); (case' li4 => try (exact ⟨Nat.zero_le _, fun i hi => absurd hi (Nat.not_lt_zero _)⟩)); (case' lr4 => rintro i ⟨hi, hai⟩ KR hR4; simp only [keepE, hupd, hset, lk, if_true, if_false, xE, reduceIte, zN]))))
 | ((first | (with_reducible refine And.intro ?_ ?_) | (with_reducible refine Need.mk ?_)); focus (first | exact True.intro | omega | (simp; done)))
 | (with_reducible refine retK_n ?_)
 | ((with_reducible show condN _ _ _ _ _ _); first
 | ((with_reducible refine condN_t ?_ ?_) <;> (intro hc; (try simp only [zB, zC, reduceCtorEq] at hc); (try (exfalso; contradiction)))))
 | ((with_reducible show callN _ _ _ _ _ _ _ _ _ _); first
 | (refine callN_q (k := 41) fnok_41 (rlen_p (N i) (hN i (by omega))) ?_ ?_))
 | ((with_reducible refine hR4 _ (i + 1) ?_); (try clear hR4 KR))
 | ((with_reducible refine Told.mk ?_); simp only [go_sem, reduceIte, reduceCtorEq, xA, xL, xD, xE, xM, xS, xB, intI] <;> ((((try simp (disch := omega) only [seaWrap, Int.natCast_add, Int.cast_ofNat_Int, and_true, true_and, and_self]); (repeat' (first | omega | (with_reducible refine And.intro ?_ ?_) | (exact all_succ (by assumption) (by assumption)))); done))))
 | ((fail_if_success (with_reducible show AW _ _ _ _)); simp (maxSteps := 2000000) only [go_sem, reduceIte, reduceCtorEq, xA, xL, xD, xE, xM, xS, xB, Tryz.f11, intI])
 | ((with_reducible refine hK _ ?_); clear hK K)
 | (with_reducible apply_assumption -exfalso only [*]))
  all_goals (first | exact few_f1 (by assumption) | exact few_f2 (by assumption) (by assumption) | exact few_t (by assumption) (by assumption) hai)
end Go.Proofs.YtdhgiklbkmkblaaGreat
namespace Go.Proofs.YtdhgiklbkmkblaaGreat
open Go.RowKit Go.Sea
open Nat renaming reduceAdd → xA, reduceLT → xL, reduceLeDiff → xD, reduceEqDiff → xE, reduceMul → xM, reduceSub → xS, reduceBEq → xB
theorem fnok_10 : fnOk Tryz.prog 10 = true := by kernel_rfl
theorem fnok_11 : fnOk Tryz.prog 11 = true := by kernel_rfl
theorem fnok_37 : fnOk Tryz.prog 37 = true := by kernel_rfl
attribute [go_sem] fnok_10 fnok_11 fnok_37
theorem eqLI_c (n m : Nat) (s t : Nat → Int) : eqLI n m s t = eqLI m n t s := by
  unfold eqLI; exact decide_eq_decide.2 ⟨fun ⟨h1, h2⟩ => ⟨h1.symm, fun i hi => (h2 i (by omega)).symm⟩, fun ⟨h1, h2⟩ => ⟨h1.symm, fun i hi => (h2 i (by omega)).symm⟩⟩
theorem eqLB_c (w n m : Nat) (P Q : Nat → Nat → Int) : eqLB w n m P Q = eqLB w m n Q P := by
  unfold eqLB; exact decide_eq_decide.2 ⟨fun ⟨h1, h2⟩ => ⟨h1.symm, fun i hi q hq => (h2 i (by omega) q hq).symm⟩, fun ⟨h1, h2⟩ => ⟨h1.symm, fun i hi q hq => (h2 i (by omega) q hq).symm⟩⟩
theorem feqB_c (f g : Feat) : feqB f g = feqB g f := by
  unfold feqB
  rw [eqLB_c 2 f.n g.n, eqLB_c 6 f.m g.m]
  congr 1
  exact decide_eq_decide.2 ⟨fun h => by omega, fun h => by omega⟩
theorem eqFI_c (n m : Nat) (f g : Nat → Feat) : eqFI n m f g = eqFI m n g f := by
  unfold eqFI; exact decide_eq_decide.2 ⟨fun ⟨h1, h2⟩ => ⟨h1.symm, fun i hi => by rw [feqB_c]; exact h2 i (by omega)⟩, fun ⟨h1, h2⟩ => ⟨h1.symm, fun i hi => by rw [feqB_c]; exact h2 i (by omega)⟩⟩
theorem cpB_c (a b : ShtS) (i : Nat) : cpB a b i = cpB b a i := by
  rcases i with _ | _ | _ | _ | _ | i
  · exact decide_eq_decide.2 eq_comm
  · exact decide_eq_decide.2 eq_comm
  · unfold cpB datE; exact decide_eq_decide.2 ⟨fun h => by omega, fun h => by omega⟩
  · exact decide_eq_decide.2 eq_comm
  · exact eqLI_c _ _ _ _
  · exact eqFI_c _ _ _ _
theorem CpB_c (a b : ShtS) : CpB a b = CpB b a := Bool.and_comm _ _
theorem cpJ_c (a b : ShtS) : cpJ a b = cpJ b a := by
  unfold cpJ; congr 1; funext i; rw [cpB_c]
theorem CpV_c (a b : ShtS) : CpV a b = CpV b a := by unfold CpV; rw [CpB_c, cpJ_c]
theorem CpE_c (a b : ShtS) : CpE a b = CpE b a := by unfold CpE; rw [CpB_c]
theorem cp_bd (a b : ShtS) : 0 ≤ CpV a b ∧ CpV a b ≤ 6 := by
  unfold CpV; split
  · split <;> omega
  · omega
theorem cpe_1 {a b : ShtS} (h : CpE a b ≠ 0) : CpE a b = 1 ∧ (shtB a = false ∨ shtB b = false) := by
  unfold CpE at h ⊢
  split at h
  · exact absurd rfl h
  · rename_i g
    rw [if_neg g]
    unfold CpB at g
    refine ⟨rfl, ?_⟩
    cases ha : shtB a with
    | false => exact Or.inl rfl
    | true => cases hb : shtB b with
      | false => exact Or.inr rfl
      | true => rw [ha, hb] at g; exact absurd rfl g
theorem cpe_0 {a b : ShtS} (h : CpE a b = 0) : CpB a b = true := by
  unfold CpE at h; split at h
  · assumption
  · cases h
theorem cp_all {a b : ShtS} (h : CpB a b = true) : CpV a b = 0 ↔ ∀ j, j < 6 → cpB a b j = true := by
  have hf := fstB_all (b := fun i => !cpB a b i) (k := 6)
  have hl := fstB_le (fun i => !cpB a b i) 6
  unfold CpV cpJ; rw [if_pos h]
  constructor
  · intro g j hj
    by_cases h6 : fstB (fun i => !cpB a b i) 6 < 6
    · rw [if_pos h6] at g; omega
    · have := hf.1 j (by omega)
      simpa using this
  · intro g
    have e := fstB_t (b := fun i => !cpB a b i) 6 fun j hj => by simp [g j hj]
    rw [e, if_neg (by omega)]
theorem cp_like {a b c : ShtS} (hc : c = { a with ed := b.ed }) (h : CpB a b = true) : (decide (CpV a b = 0)) = seqB c b := by
  subst hc
  refine Bool.eq_iff_iff.2 ?_
  rw [decide_eq_true_eq, cp_all h]
  unfold seqB
  simp only [Bool.and_eq_true, decide_eq_true_eq]
  constructor
  · intro g
    have g0 : a.ch = b.ch := of_decide_eq_true (g 0 (by omega))
    have g1 : a.sc = b.sc := of_decide_eq_true (g 1 (by omega))
    have g2 := of_decide_eq_true (show datE a b = true from g 2 (by omega))
    have g3 : a.cap = b.cap := of_decide_eq_true (g 3 (by omega))
    exact ⟨⟨g0, g1, trivial, g2, g3⟩, g 4 (by omega), g 5 (by omega)⟩
  · rintro ⟨⟨g0, g1, _, g2, g3⟩, g4, g5⟩ j hj
    rcases (by omega : j = 0 ∨ j = 1 ∨ j = 2 ∨ j = 3 ∨ j = 4 ∨ j = 5) with rfl | rfl | rfl | rfl | rfl | rfl
    · exact decide_eq_true g0
    · exact decide_eq_true g1
    · exact decide_eq_true g2
    · exact decide_eq_true g3
    · exact g4
    · exact g5
theorem few_q (s : ShtS) (hs : s.Ok) : CallsP Tryz.prog 11 [(shP s), .one (.g (.slice none 0 0))] (.t (.one (.g (.bool (fewB s 0 fun _ => not0))))) :=
  (few_p s 0 (fun _ => not0) hs (by omega) (fun i h => absurd h (Nat.not_lt_zero _))).eqv ⟨PT.eqv_refl _, ⟨rfl, rfl⟩, trivial⟩ (PV.eqv_refl _)
set_option maxRecDepth 100000 in
set_option maxHeartbeats 4000000 in
theorem cp_law (a b : ShtS) (ha : a.Ok) (hb : b.Ok) : CallsP Tryz.prog 8 [(shP a), (shP b)] (.t (.one (.g (.bool true)))) := by
  have e1 := CpV_c b a
  have e2 := CpE_c b a
  refine CallsP_of Tryz.func8 rfl (by rw [Tryz.ntmps8]; simp) ?_
  simp only [shP, Tryz.ntmps8, zM, PT.tv, argEnv, Nat.zero_add, Nat.reduceAdd]
  repeat' (first
 | ((with_reducible show AW _ _ _ _); first
 | (with_reducible first | refine aS (fun K hK => ?_) | refine aI ?_ | refine aT ?_ | refine aC ?_)
 | (first
 | (with_reducible first | refine aP 0 [0,1] ?_ | refine aP 1 [2,3] ?_ | refine aP 2 [2,3,5] ?_ | refine aP 3 [5] ?_ | refine aP 4 [2,3,5] ?_ | refine aP 5 [2,3,5,6,7] ?_ | refine aP 6 [2,3,5,6,7,8,9] ?_ | refine aP 7 [2,3,5,6,7] ?_ | refine aP 8 [2,3,5,7] ?_ | refine aP 9 [2,3,5,6] ?_ | refine aP 10 [3,5,6,10] ?_ | refine aP 11 [3,5,6,10] ?_)))
 | ((first | (with_reducible refine And.intro ?_ ?_) | (with_reducible refine Need.mk ?_)); focus (first | exact True.intro | (intro _; (with_reducible assumption)) | (simp; done) | (simp +contextual; done)))
 | (with_reducible refine retK_n ?_)
 | ((with_reducible show condN _ _ _ _ _ _); first
 | ((with_reducible refine condN_t ?_ ?_) <;> (intro hc; (try simp only [zB, zC, reduceCtorEq] at hc); (try (exfalso; contradiction)))))
 | ((with_reducible show callN _ _ _ _ _ _ _ _ _ _); first
 | (refine callN_q (k := 10) fnok_10 (head_p) ?_ ?_)
 | (refine callN_q (k := 11) fnok_11 (few_q a ha) ?_ ?_)
 | (refine callN_q (k := 29) fnok_29 (cp_p a b ha hb) ?_ ?_)
 | (refine callN_q (k := 29) fnok_29 (cp_p b a hb ha) ?_ ?_))
 | ((with_reducible show callGN _ _ _ _ _ _ _ _ _ _); first
 | (refine callGN_q (k := 11) fnok_11 (fun hg => few_q b hb) ?_ ?_)
 | (refine callGN_q (k := 34) fnok_34 (fun hg => sheet_p a ha) ?_ ?_)
 | (refine callGN_q (k := 34) fnok_34 (fun hg => sheet_p b hb) ?_ ?_)
 | (refine callGN_q (k := 37) fnok_37 (fun hg => same_p { a with ed := b.ed } b ⟨ha.q, ha.n, ha.f⟩ hb) ?_ ?_))
 | ((fail_if_success (with_reducible show AW _ _ _ _)); simp (maxSteps := 2000000) only [go_sem, reduceIte, reduceCtorEq, xA, xL, xD, xE, xM, xS, xB, Tryz.f8, intI, e1, e2, beq_self_eq_true])
 | ((with_reducible refine hK _ ?_); clear hK K))
  all_goals first
    | (have e := cpe_1 (by assumption : CpE a b ≠ 0)
       rcases e.2 with h | h
       · simp [e.1, h]
       · simp [e.1, h])
    | (have h1 := cp_bd a b
       have h2 := cp_like (c := { a with ed := b.ed }) rfl (cpe_0 (by assumption : CpE a b = 0))
       rw [← h2]
       simp [h1.1, h1.2]
       try (rw [Bool.eq_iff_iff]; simp))
end Go.Proofs.YtdhgiklbkmkblaaGreat
set_option maxRecDepth 100000
set_option maxHeartbeats 4000000
namespace Go.Proofs.YtdhgiklbkmkblaaGreat
open Go.RowKit Go.Sea
open Nat renaming reduceAdd → xA, reduceLT → xL, reduceLeDiff → xD, reduceEqDiff → xE, reduceMul → xM, reduceSub → xS, reduceBEq → xB
theorem fnok_14 : fnOk Tryz.prog 14 = true := by kernel_rfl
theorem fnok_56 : fnOk Tryz.prog 56 = true := by kernel_rfl
theorem pl_27_6 : placeF Tryz.prog 27 6 = some (12, 1) := by kernel_rfl
attribute [go_sem] fnok_14 fnok_56 pl_27_6
theorem eqLI_r (n : Nat) (s : Nat → Int) : eqLI n n s s = true := decide_eq_true ⟨rfl, fun _ _ => rfl⟩
theorem eqLB_r (w n : Nat) (P : Nat → Nat → Int) : eqLB w n n P P = true := decide_eq_true ⟨rfl, fun _ _ _ _ => rfl⟩
theorem feqB_r (f : Feat) : feqB f f = true := by unfold feqB; rw [eqLB_r, eqLB_r, decide_eq_true (by simp)]; rfl
theorem eqFI_r (n : Nat) (f : Nat → Feat) : eqFI n n f f = true := decide_eq_true ⟨rfl, fun i _ => feqB_r _⟩
theorem seqB_r (a : ShtS) : seqB a a = true := by unfold seqB; rw [eqLI_r, eqFI_r, decide_eq_true (by simp)]; rfl
def shF (f : Feat) : ShtS := { sht0 with n := 1, f := fun _ => f }
theorem shF_ok {f : Feat} (h : f.Ok) : (shF f).Ok := ⟨Nat.zero_le _, (show (1 : Nat) ≤ 9223372036854775807 from by decide), fun _ _ => h⟩
theorem sht0_ok : sht0.Ok := ⟨Nat.zero_le _, Nat.zero_le _, fun _ h => absurd h (Nat.not_lt_zero _)⟩
theorem cor_sh {s : ShtS} {n : Nat} {N : Nat → NotS} {k : Nat} {od : Nat → Int} (h : CorE s n N k od = 0) : shtB (CorS s n N k od) = true ∧ CorS s n N k od = corS s n N od k ∧ corB s n N k = true ∧ ∀ j, j < k → stpE (corS s n N od j) n N (od j) = 0 := by
  unfold CorE at h
  split at h
  · rename_i hB
    split at h
    · rename_i hj
      exact absurd h (of_decide_eq_true ((fstB_all (b := fun i => decide (stpE (corS s n N od i) n N (od i) ≠ 0)) (k := k)).2 hj))
    · rename_i hj
      have g : ∀ j, j < k → stpE (corS s n N od j) n N (od j) = 0 := fun j hj2 => by
        have := (fstB_all (b := fun i => decide (stpE (corS s n N od i) n N (od i) ≠ 0)) (k := k)).1 j (by unfold corJ at hj; omega)
        simpa using this
      have hv : shtB s = true := by unfold corB at hB; simp only [Bool.and_eq_true] at hB; exact hB.1.1
      have e : CorS s n N k od = corS s n N od k := by unfold CorS; rw [if_pos hB, if_neg hj]
      exact ⟨e ▸ cor_v hv k g, e, hB, g⟩
  · cases h
theorem CorS_ok (s : ShtS) (n : Nat) (N : Nat → NotS) (k : Nat) (od : Nat → Int) : (CorS s n N k od).Ok := by
  by_cases h : CorE s n N k od = 0
  · exact sht_ok (cor_sh h).1
  · have e : CorS s n N k od = sht0 := by
      unfold CorE at h; unfold CorS
      split
      · rw [if_pos (by assumption)] at h
        split
        · rfl
        · rw [if_neg (by assumption)] at h; exact absurd rfl h
      · rfl
    rw [e]; exact sht0_ok
theorem MkS_ok (s : ShtS) (n : Nat) (N : Nat → NotS) : (MkS s n N).Ok := by
  unfold MkS
  split
  · split
    · exact sht0_ok
    · unfold mkF
      split
      · have := CorS_ok s n N (lakL s N n).length (zL (lakL s N n))
        exact ⟨this.q, this.n, this.f⟩
      · exact sht0_ok
  · exact sht0_ok
theorem cnI_mem (N : Nat → NotS) (ch : Int) : ∀ n j, j ∈ cnI N ch n → j < n ∧ cncB (N j) ch = true
  | 0, j, h => by cases h
  | n + 1, j, h => by
    by_cases hc : cncB (N n) ch = true
    · rw [cnI_t hc] at h
      rcases List.mem_append.1 h with h | h
      · have := cnI_mem N ch n j h; exact ⟨by omega, this.2⟩
      · obtain rfl : j = n := by simpa using h
        exact ⟨by omega, hc⟩
    · rw [cnI_f (by simpa using hc)] at h
      have := cnI_mem N ch n j h; exact ⟨by omega, this.2⟩
theorem prt_ok {N : NotS} (h : N.Ok) {ch : Int} (hc : cncB N ch = true) : (prt N ch).Ok := by
  unfold cncB prtB at hc
  simp only [Bool.and_eq_true, decide_eq_true_eq] at hc
  exact h.p _ hc.2
theorem StOp_len (n : Nat) (N : Nat → NotS) (ch : Int) : (OpL n N ch).length = (StL n N ch).length := by
  unfold OpL StL; split
  · rw [opsL_len, stpL_len]
  · rfl
theorem StL_le (n : Nat) (N : Nat → NotS) (ch : Int) : (StL n N ch).length ≤ n := by
  unfold StL; split
  · rw [stpL_len]; exact cnI_le N ch n
  · exact Nat.zero_le _
theorem StL_q {n : Nat} {N : Nat → NotS} (hN : ∀ i, i < n → (N i).Ok) (ch : Int) (i : Nat) : ((StL n N ch).getD i stp0).q ≤ 9223372036854775807 := by
  have key : ∀ x, x ∈ StL n N ch → x.q ≤ 9223372036854775807 := fun x hx => by
    unfold StL at hx
    split at hx
    · unfold stpL at hx
      obtain ⟨j, hj, rfl⟩ := List.mem_map.1 hx
      have h1 := cnI_mem N ch n j hj
      have h2 := (prt_ok (hN j h1.1) h1.2).q
      have h3 := keepL_le (numL N ch n) (prt (N j) ch).a (prt (N j) ch).q
      show (keepL _ _ _).length ≤ _
      omega
    · cases hx
  rw [List.getD]
  cases h : (StL n N ch)[i]? with
  | none => exact Nat.zero_le _
  | some x => exact key x (List.mem_of_getElem? h)
theorem OpL_ok {n : Nat} {N : Nat → NotS} (hN : ∀ i, i < n → (N i).Ok) (ch : Int) (i : Nat) : ((OpL n N ch).getD i part0).Ok := by
  have key : ∀ x, x ∈ OpL n N ch → x.Ok := fun x hx => by
    unfold OpL at hx
    split at hx
    · unfold opsL at hx
      obtain ⟨j, hj, rfl⟩ := List.mem_map.1 hx
      have h1 := cnI_mem N ch n j hj
      exact prt_ok (hN j h1.1) h1.2
    · cases hx
  rw [List.getD]
  cases h : (OpL n N ch)[i]? with
  | none => exact part0_ok
  | some x => exact key x (List.mem_of_getElem? h)
theorem has_dn (q : Nat) (a : Nat → Int) (x y : Int) : hasL (q + 1) (dnI q a x) y = (decide (y = x) || hasL q a y) := by
  have hp : posI (liI q a) x ≤ q := by have := posI_le (liI q a) x; simpa [liI] using this
  refine Bool.eq_iff_iff.2 ?_
  unfold hasL
  simp only [Bool.or_eq_true, decide_eq_true_eq]
  constructor
  · rintro ⟨i, hi, he⟩
    rcases Nat.lt_trichotomy i (posI (liI q a) x) with h | h | h
    · exact Or.inr ⟨i, by omega, by rw [← he]; exact (dnI_lo h).1.symm⟩
    · subst h; exact Or.inl (he.symm.trans dnI_at)
    · exact Or.inr ⟨i - 1, by omega, by rw [← he]; exact (dnI_hi h hi).symm⟩
  · rintro (h | ⟨j, hj, he⟩)
    · exact ⟨posI (liI q a) x, by omega, dnI_at.trans h.symm⟩
    · by_cases h : j < posI (liI q a) x
      · exact ⟨j, by omega, (dnI_lo h).1.trans he⟩
      · exact ⟨j + 1, by omega, by rw [dnI_hi (by omega) (by omega)]; simpa using he⟩
theorem rsame_q (f : Feat) (hf : f.Ok) (F G : Nat → Nat → IV) (h : ∀ i o, i < 1 → o < 9 → (F i o).eqv (featG f o)) (h' : ∀ i o, i < 1 → o < 9 → (G i o).eqv (featG f o)) : CallsP Tryz.prog 14 [.agg [.g (.int .i64 0), .g (.int .i64 0), .g (.int .i64 0), .g (.int .i64 0), .g (.int .i64 0), .g (.int .i64 0), .g (.int .i64 0), .g (.int .i64 0), .g (.int .i64 0), .g (.int .i64 0), .g (.int .i64 0), .g (.slice none 0 0), .lst 9 1 F], .agg [.g (.int .i64 0), .g (.int .i64 0), .g (.int .i64 0), .g (.int .i64 0), .g (.int .i64 0), .g (.int .i64 0), .g (.int .i64 0), .g (.int .i64 0), .g (.int .i64 0), .g (.int .i64 0), .g (.int .i64 0), .g (.slice none 0 0), .lst 9 1 G]] (.t (.one (.g (.bool (true))))) := by
  have g := rsame_p (shF f) (shF f) (shF_ok hf) (shF_ok hf)
  rw [seqB_r] at g
  exact g.eqv ⟨⟨rfl, rfl, rfl, rfl, rfl, rfl, rfl, rfl, rfl, rfl, rfl, ⟨rfl, rfl⟩, ⟨rfl, rfl, h⟩, trivial⟩, ⟨rfl, rfl, rfl, rfl, rfl, rfl, rfl, rfl, rfl, rfl, rfl, ⟨rfl, rfl⟩, ⟨rfl, rfl, h'⟩, trivial⟩, trivial⟩ (PV.eqv_refl _)
theorem rsop_p (o : OpS) (ho : o.f.Ok) : CallsP Tryz.prog 56 [.agg [.g (.int .i64 (o.kd)), .g (.int .i64 (o.id)), .g (.int .i64 (o.f.id)), .g (.int .i64 (o.f.kd)), .g (.int .i64 (o.f.x)), .g (.int .i64 (o.f.y)), .g (.int .i64 (o.f.r)), .lst 2 o.f.n (ptI o.f.P), .g (.int .i64 (o.f.d)), .g (.int .i64 (o.f.s)), .lst 6 o.f.m (ptI o.f.S), .g (.int .i64 (o.x)), .g (.int .i64 (o.y)), .g (.int .i64 (o.r)), .g (.int .i64 (o.d)), .g (.int .i64 (o.s))], .agg [.g (.int .i64 (o.kd)), .g (.int .i64 (o.id)), .g (.int .i64 (o.f.id)), .g (.int .i64 (o.f.kd)), .g (.int .i64 (o.f.x)), .g (.int .i64 (o.f.y)), .g (.int .i64 (o.f.r)), .lst 2 o.f.n (ptI o.f.P), .g (.int .i64 (o.f.d)), .g (.int .i64 (o.f.s)), .lst 6 o.f.m (ptI o.f.S), .g (.int .i64 (o.x)), .g (.int .i64 (o.y)), .g (.int .i64 (o.r)), .g (.int .i64 (o.d)), .g (.int .i64 (o.s))]] (.t (.one (.g (.bool (true))))) := by
  refine CallsP_of Tryz.func56 rfl (by rw [Tryz.ntmps56]; simp) ?_
  simp only [Tryz.ntmps56, zM, PT.tv, argEnv, Nat.zero_add, Nat.reduceAdd]
  repeat' (first
 | ((with_reducible show AW _ _ _ _); first
 | (with_reducible first | refine aS (fun K hK => ?_) | refine aT ?_)
 | (first
 | (with_reducible refine aP 0 [0,1] ?_)
 | ((with_reducible refine aR (c := Code.region 1 _ true) [2,3] ?_); (with_reducible refine aD ?_ ?_ ?_ ?_); (focus kernel_rfl); (focus kernel_rfl); (focus kernel_rfl))
 | (with_reducible first | refine aP 2 [2,3,5,6] ?_ | refine aP 3 [2,3,7] ?_)))
 | ((first | (with_reducible refine And.intro ?_ ?_) | (with_reducible refine Need.mk ?_)); focus (exact True.intro))
 | (with_reducible refine retK_n ?_)
 | ((with_reducible refine And.intro ?_ ?_); focus ((with_reducible show chkR _ _ _ = true); kernel_rfl))
 | ((with_reducible show callN _ _ _ _ _ _ _ _ _ _); first
 | (refine callN_q (k := 14) fnok_14 (rsame_q o.f ho _ _ (fun i u hi hu => by obtain rfl : i = 0 := (by omega); rcases (by omega : u = 0 ∨ u = 1 ∨ u = 2 ∨ u = 3 ∨ u = 4 ∨ u = 5 ∨ u = 6 ∨ u = 7 ∨ u = 8) with rfl | rfl | rfl | rfl | rfl | rfl | rfl | rfl | rfl <;> exact IV.eqv_refl _) (fun i u hi hu => by obtain rfl : i = 0 := (by omega); rcases (by omega : u = 0 ∨ u = 1 ∨ u = 2 ∨ u = 3 ∨ u = 4 ∨ u = 5 ∨ u = 6 ∨ u = 7 ∨ u = 8) with rfl | rfl | rfl | rfl | rfl | rfl | rfl | rfl | rfl <;> exact IV.eqv_refl _)) ?_ ?_))
 | ((fail_if_success (with_reducible show AW _ _ _ _)); simp (maxSteps := 2000000) only [go_sem, reduceIte, reduceCtorEq, xA, xL, xD, xE, xM, xS, xB, Tryz.f56, beq_self_eq_true, Bool.and_self])
 | ((with_reducible refine hK _ ?_); clear hK K))
theorem rsm_p (k : Nat) (o : Nat → OpS) (hk : k ≤ 9223372036854775807) (ho : ∀ i, i < k → (o i).f.Ok) : CallsP Tryz.prog 18 [.one (.lst 16 k (oprF o)), .one (.lst 16 k (oprF o))] (.t (.one (.g (.bool (true))))) := by
  refine CallsP_of Tryz.func18 rfl (by rw [Tryz.ntmps18]; simp) ?_
  simp only [Tryz.ntmps18, zM, PT.tv, argEnv, Nat.zero_add, Nat.reduceAdd]
  repeat' (first
 | ((with_reducible show AW _ _ _ _); first
 | (with_reducible first | refine aS (fun K hK => ?_) | refine aI ?_ | refine aX ?_ | refine aT ?_ | refine aC ?_ | refine aB ?_)
 | (first
 | (with_reducible first | refine aP 0 [0,1] ?_ | refine aP 1 [0,1] ?_ | refine aP 3 [0,1] ?_ | refine aP 4 [0,1,12,13] ?_ | refine aP 5 [0,1,12,13] ?_)
 | ((with_reducible refine aR (c := Code.region 6 _ true) [0,1,5,12,13] ?_); (with_reducible refine aD ?_ ?_ ?_ ?_); (focus kernel_rfl); (focus kernel_rfl); (focus kernel_rfl))
 | (with_reducible first | refine aP 8 [0,1,12,13] ?_ | refine aP 9 [] ?_))
 | ((with_reducible show AW _ (Code.loop _) _ _); first
 | ((with_reducible refine aL (c := (Code.seq (Code.region 4 _ _) _)) (ι := Nat) [0,1,12] (fun i => [(13, iA .i64 (i : Int))]) (fun i => []) (fun i => i ≤ k) (fun i => k - i) 0 ?lg4 ?l14 ?l24 ?li4 ?lr4); (case' lg4 => rintro i _); (case' li4 => try (omega)); (case' lr4 => rintro i hi KR hR4; simp only [keepE, hupd, hset, lk, if_true, if_false, xE, reduceIte, zN, bne_self_eq_false]))))
 | ((first | (with_reducible refine And.intro ?_ ?_) | (with_reducible refine Need.mk ?_)); focus (first | exact True.intro | omega))
 | (with_reducible refine retK_n ?_)
 | ((with_reducible show condN _ _ _ _ _ _); first
 | ((with_reducible refine condN_t ?_ ?_) <;> (intro hc; (try simp only [zB, zC, reduceCtorEq] at hc); (try (exfalso; contradiction)))))
 | ((with_reducible refine And.intro ?_ ?_); focus ((with_reducible show chkR _ _ _ = true); kernel_rfl))
 | ((with_reducible show callDN _ _ _ _ _ _ _ _ _ _ _ _ _); first
 | (refine callDN_q (k := 56) fnok_56 (rsop_p (o i) (ho i (by omega))) ?_ ?_))
 | ((with_reducible refine hR4 _ (i + 1) ?_); (try clear hR4 KR))
 | ((with_reducible refine Told.mk ?_); simp only [go_sem, reduceIte, reduceCtorEq, xA, xL, xD, xE, xM, xS, xB, bne_self_eq_false] <;> ((((try simp (disch := omega) only [seaWrap, Int.natCast_add, Int.cast_ofNat_Int, and_true, true_and, and_self]); (repeat' (omega)); done))))
 | ((fail_if_success (with_reducible show AW _ _ _ _)); simp (maxSteps := 2000000) only [go_sem, reduceIte, reduceCtorEq, xA, xL, xD, xE, xM, xS, xB, Tryz.f18, bne_self_eq_false])
 | ((with_reducible refine hK _ ?_); clear hK K)
 | (with_reducible apply_assumption -exfalso only [*]))
theorem few_1 (t : ShtS) (N : NotS) (ht : t.Ok) (hN : N.Ok) (F : Nat → Nat → IV) (h : ∀ i o, i < 1 → o < 7 → (F i o).eqv (notG N o)) : CallsP Tryz.prog 11 [(shP t), .one (.lst 7 1 F)] (.t (.one (.g (.bool (fewB t 1 fun _ => N))))) :=
  (few_p t 1 (fun _ => N) ht (by omega) (fun i _ => hN)).eqv ⟨PT.eqv_refl _, ⟨rfl, rfl, h⟩, trivial⟩ (PV.eqv_refl _)
end Go.Proofs.YtdhgiklbkmkblaaGreat
set_option maxRecDepth 100000
set_option maxHeartbeats 4000000
namespace Go.Proofs.YtdhgiklbkmkblaaGreat
open Go.RowKit Go.Sea
open Nat renaming reduceAdd → xA, reduceLT → xL, reduceLeDiff → xD, reduceEqDiff → xE, reduceMul → xM, reduceSub → xS, reduceBEq → xB
attribute [go_sem] fnok_10 fnok_11
def mssI (s : ShtS) (P : PartS) (i : Nat) : Bool := decide (∃ j, j < i ∧ hasL s.q s.dn (P.a j) = false)
theorem mssI_s (s : ShtS) (P : PartS) (i : Nat) : mssI s P (i + 1) = (mssI s P i || !hasL s.q s.dn (P.a i)) := by
  refine Bool.eq_iff_iff.2 ?_
  unfold mssI
  simp only [Bool.or_eq_true, decide_eq_true_eq, Bool.not_eq_true']
  constructor
  · rintro ⟨j, h1, h2⟩
    rcases Nat.lt_or_ge j i with h | h
    · exact Or.inl ⟨j, h, h2⟩
    · obtain rfl : j = i := by omega
      exact Or.inr h2
  · rintro (⟨j, h1, h2⟩ | h)
    · exact ⟨j, by omega, h2⟩
    · exact ⟨i, by omega, h⟩
theorem mssI_q (s : ShtS) (P : PartS) : mssI s P P.q = mssB s P := rfl
theorem pvv_t {N : NotS} {ch : Int} (h : prtB N ch = true) : prtV N ch = (prtJ N ch : Int) ∧ prtJ N ch < N.n := by
  have := of_decide_eq_true h
  exact ⟨by unfold prtV; rw [if_pos this], this⟩
theorem pvv_f {N : NotS} {ch : Int} (h : prtB N ch = false) : prtV N ch = -1 := by
  have := of_decide_eq_false h
  unfold prtV; rw [if_neg this]
theorem ed_cases {s : ShtS} {N : NotS} (h0 : ApE s N ≠ 0) (h1 : ApE s N ≠ 1) (hb : prtB N s.ch = true) : ApE s N = 12 ∧ N.kd ≠ 1 ∨ ApE s N = 5 ∧ hasL s.q s.dn N.nu = true ∨ ApE s N = 16 ∧ mssB s (prt N s.ch) = true ∨ ApE s N = 2 ∧ s.q = 200 ∨ ApE s N = 15 ∧ apE s.n s.f (prt N s.ch).k (prt N s.ch).o ≠ 0 := by
  unfold ApE at h0 h1 ⊢
  by_cases g0 : (shtB s && notB N) = true
  · rw [if_pos g0] at h0 h1 ⊢
    simp only [Bool.and_eq_true] at g0
    unfold edE at h0 h1 ⊢
    by_cases g1 : N.kd ≠ 1
    · rw [if_pos g1]; exact Or.inl ⟨rfl, g1⟩
    rw [if_neg g1] at h0 h1 ⊢
    have g2 : ¬ prtB N s.ch = false := by rw [hb]; simp
    rw [if_neg g2] at h0 h1 ⊢
    unfold appE at h0 h1 ⊢
    by_cases g3 : hasL s.q s.dn N.nu = true
    · rw [if_pos g3]; exact Or.inr (Or.inl ⟨rfl, g3⟩)
    rw [if_neg g3] at h0 h1 ⊢
    by_cases g4 : mssB s (prt N s.ch) = true
    · rw [if_pos g4]; exact Or.inr (Or.inr (Or.inl ⟨rfl, g4⟩))
    rw [if_neg g4] at h0 h1 ⊢
    by_cases g5 : 200 ≤ s.q
    · rw [if_pos g5]
      have := (sht_q g0.1).1
      exact Or.inr (Or.inr (Or.inr (Or.inl ⟨rfl, by omega⟩)))
    rw [if_neg g5] at h0 h1 ⊢
    by_cases g6 : apE s.n s.f (prt N s.ch).k (prt N s.ch).o ≠ 0
    · rw [if_pos g6]; exact Or.inr (Or.inr (Or.inr (Or.inr ⟨rfl, g6⟩)))
    rw [if_neg g6] at h0; exact absurd rfl h0
  · rw [if_neg g0] at h1; exact absurd rfl h1
theorem ed_n0 {s : ShtS} {N : NotS} (hb : prtB N s.ch = false) : ApE s N ≠ 0 := fun h => by rw [(ed_ok h).2.2.2.2.1] at hb; cases hb
theorem ed_again {s : ShtS} {N : NotS} (h : ApE s N = 0) : ApE (edS s N) N = 5 := by
  have e := ed_ok h
  have g : hasL (edS s N).q (edS s N).dn N.nu = true := by
    show hasL (s.q + 1) (dnI s.q s.dn N.nu) N.nu = true
    rw [has_dn]; simp
  exact (Ap_val e.1 e.2.2.1).trans ((ed_ap (s := edS s N) e.2.2.2.1 e.2.2.2.2.1).trans (ap_5 (s := edS s N) g))
theorem app_fin {s : ShtS} {N : NotS} (h0 : ApE s N ≠ 0) (h1 : ApE s N ≠ 1) (hb : prtB N s.ch = true) :
    ((ApE s N = 12 ∨ ApE s N = 5) → (N.kd ≠ 1 ∨ hasL s.q s.dn N.nu = true)) ∧ (¬ (ApE s N = 12 ∨ ApE s N = 5) → (ApE s N = 16 ∧ mssB s (prt N s.ch) = true ∨ ApE s N = 15 ∧ apE s.n s.f (prt N s.ch).k (prt N s.ch).o ≠ 0 ∨ ApE s N = 2 ∧ s.q = 200)) := by
  rcases ed_cases h0 h1 hb with ⟨e, g⟩ | ⟨e, g⟩ | ⟨e, g⟩ | ⟨e, g⟩ | ⟨e, g⟩ <;> rw [e] <;> refine ⟨fun h => ?_, fun h => ?_⟩ <;> first | exact Or.inl g | exact Or.inr g | (exfalso; omega) | (simp [g])
theorem edS_0 (s : ShtS) (N : NotS) : (edS s N).ch = s.ch ∧ (edS s N).sc = s.sc ∧ (edS s N).ed = s.ed ∧ (edS s N).m = s.m ∧ (edS s N).cap = s.cap ∧ (edS s N).q = s.q + 1 ∧ (edS s N).dn = dnI s.q s.dn N.nu ∧ (edS s N).n = apN s.n s.f (prt N s.ch).k (prt N s.ch).o ∧ (edS s N).f = apF s.n s.f (prt N s.ch).k (prt N s.ch).o := ⟨rfl, rfl, rfl, rfl, rfl, rfl, rfl, rfl, rfl⟩
theorem pj_prt (N : NotS) (ch : Int) : N.p (prtJ N ch) = prt N ch := rfl
theorem app_1 (s : ShtS) (N : NotS) (hs : s.Ok) (hN : N.Ok) (hf : fewB s 1 (fun _ => N) = false) : CallsP Tryz.prog 4 [(shP s), (noP N)] (.t (.one (.g (.bool (true))))) := by
  refine CallsP_of Tryz.func4 rfl (by rw [Tryz.ntmps4]; simp) ?_
  simp only [noP, shP, Tryz.ntmps4, zM, PT.tv, argEnv, Nat.zero_add, Nat.reduceAdd]
  repeat' (first
 | ((with_reducible show AW _ _ _ _); first
 | (with_reducible first | refine aS (fun K hK => ?_) | refine aT ?_ | refine aC ?_)
 | (first
 | (with_reducible first | refine aP 0 [0,1] ?_ | refine aP 1 [2,3] ?_ | refine aP 2 [2,3,5] ?_ | refine aP 3 [5] ?_)))
 | (((with_reducible refine Need.mk ?_)); focus (exact True.intro))
 | (with_reducible refine retK_n ?_)
 | ((with_reducible show condN _ _ _ _ _ _); first
 | ((with_reducible refine condN_t ?_ ?_) <;> (intro hc; (try simp only [zB, zC, reduceCtorEq] at hc); (try (exfalso; contradiction)))))
 | ((with_reducible show callN _ _ _ _ _ _ _ _ _ _); first
 | (refine callN_q (k := 10) fnok_10 (head_p) ?_ ?_)
 | (refine callN_q (k := 11) fnok_11 (few_1 s N hs hN _ (fun i u hi hu => by obtain rfl : i = 0 := (by omega); rcases (by omega : u = 0 ∨ u = 1 ∨ u = 2 ∨ u = 3 ∨ u = 4 ∨ u = 5 ∨ u = 6) with rfl | rfl | rfl | rfl | rfl | rfl | rfl <;> exact IV.eqv_refl _)) ?_ ?_))
 | ((fail_if_success (with_reducible show AW _ _ _ _)); simp (maxSteps := 2000000) only [go_sem, reduceIte, reduceCtorEq, xA, xL, xD, xE, xM, xS, xB, Tryz.f4, hf, beq_self_eq_true, Bool.and_self, intI, pj_prt])
 | ((with_reducible refine hK _ ?_); clear hK K))
theorem app_2 (s : ShtS) (N : NotS) (hs : s.Ok) (hN : N.Ok) (hf : fewB s 1 (fun _ => N) = true) (hb : prtV N s.ch = -1) (h0 : (ApE s N != 0) = true) : CallsP Tryz.prog 4 [(shP s), (noP N)] (.t (.one (.g (.bool (true))))) := by
  refine CallsP_of Tryz.func4 rfl (by rw [Tryz.ntmps4]; simp) ?_
  simp only [noP, shP, Tryz.ntmps4, zM, PT.tv, argEnv, Nat.zero_add, Nat.reduceAdd]
  repeat' (first
 | ((with_reducible show AW _ _ _ _); first
 | (with_reducible first | refine aS (fun K hK => ?_) | refine aI ?_ | refine aT ?_ | refine aC ?_)
 | (first
 | (with_reducible first | refine aP 0 [0,1] ?_ | refine aP 1 [2,3] ?_ | refine aP 2 [2,3,5] ?_ | refine aP 4 [2,3,5] ?_ | refine aP 5 [2,3,5,6,7] ?_ | refine aP 6 [2,3,5,6,7,8] ?_ | refine aP 7 [5,7] ?_)))
 | ((first | (with_reducible refine And.intro ?_ ?_) | (with_reducible refine Need.mk ?_)); focus (first | exact True.intro | (simp; done)))
 | (with_reducible refine retK_n ?_)
 | ((with_reducible show condN _ _ _ _ _ _); first
 | ((with_reducible refine condN_t ?_ ?_) <;> (intro hc; (try simp only [zB, zC, reduceCtorEq] at hc); (try (exfalso; omega)))))
 | ((with_reducible show callN _ _ _ _ _ _ _ _ _ _); first
 | (refine callN_q (k := 10) fnok_10 (head_p) ?_ ?_)
 | (refine callN_q (k := 11) fnok_11 (few_1 s N hs hN _ (fun i u hi hu => by obtain rfl : i = 0 := (by omega); rcases (by omega : u = 0 ∨ u = 1 ∨ u = 2 ∨ u = 3 ∨ u = 4 ∨ u = 5 ∨ u = 6) with rfl | rfl | rfl | rfl | rfl | rfl | rfl <;> exact IV.eqv_refl _)) ?_ ?_)
 | (refine callN_q (k := 12) fnok_12 (edAp_p s N hs hN) ?_ ?_)
 | (refine callN_q (k := 31) fnok_31 (rprt_p N s.ch hN) ?_ ?_))
 | ((fail_if_success (with_reducible show AW _ _ _ _)); simp (maxSteps := 2000000) only [go_sem, reduceIte, reduceCtorEq, xA, xL, xD, xE, xM, xS, xB, Tryz.f4, hf, beq_self_eq_true, Bool.and_self, intI, pj_prt, hb, h0])
 | ((with_reducible refine hK _ ?_); clear hK K))
theorem app_2b (s : ShtS) (N : NotS) (hs : s.Ok) (hN : N.Ok) (hf : fewB s 1 (fun _ => N) = true) (hb : prtV N s.ch = (prtJ N s.ch : Int)) (h0 : ApE s N = 1) : CallsP Tryz.prog 4 [(shP s), (noP N)] (.t (.one (.g (.bool (true))))) := by
  refine CallsP_of Tryz.func4 rfl (by rw [Tryz.ntmps4]; simp) ?_
  simp only [noP, shP, Tryz.ntmps4, zM, PT.tv, argEnv, Nat.zero_add, Nat.reduceAdd]
  repeat' (first
 | ((with_reducible show AW _ _ _ _); first
 | (with_reducible first | refine aS (fun K hK => ?_) | refine aI ?_ | refine aT ?_ | refine aC ?_)
 | (first
 | (with_reducible first | refine aP 0 [0,1] ?_ | refine aP 1 [2,3] ?_ | refine aP 2 [2,3,5] ?_ | refine aP 4 [2,3,5] ?_ | refine aP 5 [2,3,5,6,7] ?_ | refine aP 6 [2,3,5,6,7,8] ?_ | refine aP 7 [5,7] ?_)))
 | ((first | (with_reducible refine And.intro ?_ ?_) | (with_reducible refine Need.mk ?_)); focus (first | exact True.intro | (simp; done)))
 | (with_reducible refine retK_n ?_)
 | ((with_reducible show condN _ _ _ _ _ _); first
 | ((with_reducible refine condN_t ?_ ?_) <;> (intro hc; (try simp only [zB, zC, reduceCtorEq] at hc); (try (exfalso; contradiction)))))
 | ((with_reducible show callN _ _ _ _ _ _ _ _ _ _); first
 | (refine callN_q (k := 10) fnok_10 (head_p) ?_ ?_)
 | (refine callN_q (k := 11) fnok_11 (few_1 s N hs hN _ (fun i u hi hu => by obtain rfl : i = 0 := (by omega); rcases (by omega : u = 0 ∨ u = 1 ∨ u = 2 ∨ u = 3 ∨ u = 4 ∨ u = 5 ∨ u = 6) with rfl | rfl | rfl | rfl | rfl | rfl | rfl <;> exact IV.eqv_refl _)) ?_ ?_)
 | (refine callN_q (k := 12) fnok_12 (edAp_p s N hs hN) ?_ ?_)
 | (refine callN_q (k := 31) fnok_31 (rprt_p N s.ch hN) ?_ ?_))
 | ((fail_if_success (with_reducible show AW _ _ _ _)); simp (maxSteps := 2000000) only [go_sem, reduceIte, reduceCtorEq, xA, xL, xD, xE, xM, xS, xB, Tryz.f4, hf, beq_self_eq_true, Bool.and_self, intI, pj_prt, hb, h0])
 | ((with_reducible refine hK _ ?_); clear hK K))
  all_goals (rfl)
theorem app_3 (s : ShtS) (N : NotS) (hs : s.Ok) (hN : N.Ok) (hf : fewB s 1 (fun _ => N) = true) (hb : prtV N s.ch = (prtJ N s.ch : Int)) (hj : prtJ N s.ch < N.n) (hP : (prt N s.ch).Ok) (h0 : ApE s N ≠ 0) (h1 : ApE s N ≠ 1) (hB : prtB N s.ch = true) : CallsP Tryz.prog 4 [(shP s), (noP N)] (.t (.one (.g (.bool (true))))) := by
  have hpq := hP.q
  have hsq := hs.q
  refine CallsP_of Tryz.func4 rfl (by rw [Tryz.ntmps4]; simp) ?_
  simp only [noP, shP, Tryz.ntmps4, zM, PT.tv, argEnv, Nat.zero_add, Nat.reduceAdd]
  repeat' (first
 | ((with_reducible show AW _ _ _ _); first
 | (with_reducible first | refine aS (fun K hK => ?_) | refine aI ?_ | refine aX ?_ | refine aT ?_ | refine aC ?_ | refine aB ?_)
 | (first
 | (with_reducible first | refine aP 0 [0,1] ?_ | refine aP 1 [2,3] ?_ | refine aP 2 [2,3,5] ?_ | refine aP 4 [2,3,5] ?_ | refine aP 5 [2,3,5,6,7] ?_ | refine aP 6 [2,3,5,6,7,8] ?_ | refine aP 8 [2,3,5,6,7,8] ?_ | refine aP 9 [2,3,5,6,7,9] ?_ | refine aP 10 [2,3,5,6,7,9,10,12] ?_ | refine aP 11 [2,3,5,6,7,9,10,12,13] ?_ | refine aP 12 [2,3,5,6,7,10,12,13,64,65,66] ?_ | refine aP 13 [2,3,5,6,7,10,12,13,64,65,66] ?_ | refine aP 14 [2,3,5,6,7,10,12,13,15,64,65,66] ?_ | refine aP 15 [2,3,5,6,7,10,12,13,64,65,66] ?_ | refine aP 16 [2,3,5,6,7,10,12,13] ?_ | refine aP 17 [2,3,5,7,12,13] ?_ | refine aP 18 [2,3,5] ?_ | refine aP 19 [2,5,7,12,13] ?_))
 | ((with_reducible show AW _ (Code.loop _) _ _); first
 | ((with_reducible refine aL (c := (Code.seq (Code.region 12 _ _) _)) (ι := Nat) [2,3,5,6,7,10,12,64,65] (fun i => [(13, .t (.one (.iv (.g (.bool (mssI s (prt N s.ch) i)))))), (66, iA .i64 (i : Int))]) (fun i => []) (fun i => i ≤ (prt N s.ch).q) (fun i => (prt N s.ch).q - i) 0 ?lg12 ?l112 ?l212 ?li12 ?lr12); (case' lg12 => rintro i _); (case' li12 => try (omega)); (case' lr12 => rintro i hi KR hR12; simp only [keepE, hupd, hset, lk, if_true, if_false, xE, reduceIte, zN, hf, beq_self_eq_true, Bool.and_self, pj_prt, hb, mssI_q]))))
 | ((first | (with_reducible refine And.intro ?_ ?_) | (with_reducible refine Need.mk ?_)); focus (first | exact True.intro | omega | (intro _; (with_reducible assumption)) | (simp; done) | (simp +contextual; done) | (intro h; rw [h]; rfl)))
 | (with_reducible refine retK_n ?_)
 | ((with_reducible show condN _ _ _ _ _ _); first
 | ((with_reducible refine condN_t ?_ ?_) <;> (intro hc; (try simp only [zB, zC, reduceCtorEq] at hc); (try (exfalso; first | contradiction | omega)))))
 | ((with_reducible show callN _ _ _ _ _ _ _ _ _ _); first
 | (refine callN_q (k := 10) fnok_10 (head_p) ?_ ?_)
 | (refine callN_q (k := 11) fnok_11 (few_1 s N hs hN _ (fun i u hi hu => by obtain rfl : i = 0 := (by omega); rcases (by omega : u = 0 ∨ u = 1 ∨ u = 2 ∨ u = 3 ∨ u = 4 ∨ u = 5 ∨ u = 6) with rfl | rfl | rfl | rfl | rfl | rfl | rfl <;> exact IV.eqv_refl _)) ?_ ?_)
 | (refine callN_q (k := 12) fnok_12 (edAp_p s N hs hN) ?_ ?_)
 | (refine callN_q (k := 31) fnok_31 (rprt_p N s.ch hN) ?_ ?_)
 | (refine callN_q (k := 32) fnok_32 (Apply_p s.n s.f (prt N s.ch).k (prt N s.ch).o hs.n hs.f hP.k hP.o) ?_ ?_))
 | ((with_reducible show callGN _ _ _ _ _ _ _ _ _ _); first
 | (refine callGN_q (k := 33) fnok_33 (fun hg => rhas_p s.q s.dn ((prt N s.ch).a i) hs.q) ?_ ?_)
 | (refine callGN_q (k := 33) fnok_33 (fun hg => rhas_p s.q s.dn N.nu hs.q) ?_ ?_))
 | ((with_reducible refine hR12 _ (i + 1) ?_); (try clear hR12 KR))
 | ((with_reducible refine Told.mk ?_); simp only [go_sem, reduceIte, reduceCtorEq, xA, xL, xD, xE, xM, xS, xB, hf, beq_self_eq_true, Bool.and_self, intI, pj_prt, hb, mssI_q] <;> ((((try simp (disch := omega) only [seaWrap, Int.natCast_add, Int.cast_ofNat_Int, and_true, true_and, and_self]); (repeat' (first | omega | rfl | (with_reducible refine And.intro ?_ ?_) | ((rw [mssI_s])))); done))))
 | ((fail_if_success (with_reducible show AW _ _ _ _)); simp (maxSteps := 2000000) only [go_sem, reduceIte, reduceCtorEq, xA, xL, xD, xE, xM, xS, xB, Tryz.f4, hf, beq_self_eq_true, Bool.and_self, intI, pj_prt, hb, mssI_q])
 | ((with_reducible refine hK _ ?_); clear hK K)
 | (with_reducible apply_assumption -exfalso only [*]))
  all_goals first
    | (have g := (app_fin h0 h1 hB).1 (by assumption)
       rcases g with g | g <;> simp [g])
    | (have e0 : i = (prt N s.ch).q := (by omega)
       subst e0
       have g := (app_fin h0 h1 hB).2 (by omega)
       rw [mssI_q]
       rcases g with ⟨g, g2⟩ | ⟨g, g2⟩ | ⟨g, g2⟩ <;> simp [g, g2])
theorem app_4 (s : ShtS) (N : NotS) (hs : s.Ok) (hN : N.Ok) (hf : fewB s 1 (fun _ => N) = true) (hb : prtV N s.ch = (prtJ N s.ch : Int)) (hj : prtJ N s.ch < N.n) (hP : (prt N s.ch).Ok) (hE : (edS s N).Ok) (h0 : ApE s N = 0) (h2 : ApE (edS s N) N = 5) (h3 : apE s.n s.f (prt N s.ch).k (prt N s.ch).o = 0) (h4 : mssB s (prt N s.ch) = false) (h5 : shtB (edS s N) = true) (h6 : hasL (s.q + 1) (dnI s.q s.dn N.nu) N.nu = true) (h7 : ∀ i, i < s.q → hasL (s.q + 1) (dnI s.q s.dn N.nu) (s.dn i) = true) (hq200 : s.q < 200) : CallsP Tryz.prog 4 [(shP s), (noP N)] (.t (.one (.g (.bool (true))))) := by
  have hqq : (((s.q + 1 : Nat) : Int) == (s.q : Int) + 1) = true := by simp
  have hpq := hP.q
  have hsq := hs.q
  have hsx : True := trivial
  refine CallsP_of Tryz.func4 rfl (by rw [Tryz.ntmps4]; simp) ?_
  simp only [noP, shP, Tryz.ntmps4, zM, PT.tv, argEnv, Nat.zero_add, Nat.reduceAdd]
  repeat' (first
 | ((with_reducible show AW _ _ _ _); first
 | (with_reducible first | refine aS (fun K hK => ?_) | refine aI ?_ | refine aX ?_ | refine aT ?_ | refine aC ?_ | refine aB ?_)
 | (first
 | (with_reducible first | refine aP 0 [0,1] ?_ | refine aP 1 [2,3] ?_ | refine aP 2 [2,3,5] ?_ | refine aP 4 [2,3,5] ?_ | refine aP 5 [2,3,5,6,7] ?_ | refine aP 6 [2,3,5,6,7,8] ?_ | refine aP 8 [2,3,5,6,7,8] ?_ | refine aP 9 [2,3,5,6,7,9] ?_ | refine aP 10 [2,3,5,6,7,9,10,12] ?_ | refine aP 11 [2,3,5,6,7,9,10,12,13] ?_ | refine aP 12 [2,3,5,6,7,10,12,13,64,65,66] ?_ | refine aP 13 [2,3,5,6,7,10,12,13,64,65,66] ?_ | refine aP 14 [2,3,5,6,7,10,12,13,15,64,65,66] ?_ | refine aP 15 [2,3,5,6,7,10,12,13,64,65,66] ?_ | refine aP 16 [2,3,5,6,7,10,12,13] ?_ | refine aP 20 [2,3,5,6,10,12,13] ?_ | refine aP 21 [2,3,5,6,10,12,13,17] ?_ | refine aP 22 [2,3,5,6,10,12,13,17,18] ?_ | refine aP 23 [2,3,5,6,12,13,17,18] ?_ | refine aP 24 [2,3,5,6,12,13,17,18] ?_ | refine aP 25 [2,5,6] ?_ | refine aP 26 [5,6,178,179,180] ?_ | refine aP 27 [5,6,178,179,180] ?_ | refine aP 28 [5,6,20,178,179,180] ?_ | refine aP 29 [5,6,178,179,180] ?_ | refine aP 30 [5] ?_))
 | ((with_reducible show AW _ (Code.loop _) _ _); first
 | ((with_reducible refine aL (c := (Code.seq (Code.region 12 _ _) _)) (ι := Nat) [2,3,5,6,7,10,12,64,65] (fun i => [(13, .t (.one (.iv (.g (.bool (mssI s (prt N s.ch) i)))))), (66, iA .i64 (i : Int))]) (fun i => []) (fun i => i ≤ (prt N s.ch).q) (fun i => (prt N s.ch).q - i) 0 ?lg12 ?l112 ?l212 ?li12 ?lr12); (case' lg12 => rintro i _); (case' li12 => try (omega)); (case' lr12 => rintro i hi KR hR12; simp only [keepE, hupd, hset, lk, if_true, if_false, xE, reduceIte, zN, hf, beq_self_eq_true, Bool.and_self, pj_prt, hb, mssI_q, h0, (ApS_0 h0).1, h2, h3, h4, h5, h6, seqB_r, hsx, hqq, edS_0]))
 | ((with_reducible refine aL (c := (Code.seq (Code.region 26 _ _) _)) (ι := Nat) [6,178,179] (fun i => [(5, .t (.one (.iv (.g (.bool true))))), (180, iA .i64 (i : Int))]) (fun i => []) (fun i => i ≤ s.q) (fun i => s.q - i) 0 ?lg26 ?l126 ?l226 ?li26 ?lr26); (case' lg26 => rintro i _); (case' li26 => try (omega)); (case' lr26 => rintro i hi KR hR26; simp only [keepE, hupd, hset, lk, if_true, if_false, xE, reduceIte, zN, hf, beq_self_eq_true, Bool.and_self, pj_prt, hb, mssI_q, h0, (ApS_0 h0).1, h2, h3, h4, h5, h6, seqB_r, hsx, hqq, edS_0]))))
 | ((first | (with_reducible refine And.intro ?_ ?_) | (with_reducible refine Need.mk ?_)); focus (first | exact True.intro | omega | (intro _; first | exact True.intro | (with_reducible assumption)) | (simp; done)))
 | (with_reducible refine retK_n ?_)
 | ((with_reducible show condN _ _ _ _ _ _); first
 | ((with_reducible refine condN_t ?_ ?_) <;> (intro hc; (try simp only [zB, zC, reduceCtorEq] at hc); ((try (have e0 : i = (prt N s.ch).q := (by omega); subst e0)); (try (have hsx := h7 i (by omega)))); (try (exfalso; first | contradiction | omega)))))
 | ((with_reducible show callN _ _ _ _ _ _ _ _ _ _); first
 | (refine callN_q (k := 10) fnok_10 (head_p) ?_ ?_)
 | (refine callN_q (k := 11) fnok_11 (few_1 s N hs hN _ (fun i u hi hu => by obtain rfl : i = 0 := (by omega); rcases (by omega : u = 0 ∨ u = 1 ∨ u = 2 ∨ u = 3 ∨ u = 4 ∨ u = 5 ∨ u = 6) with rfl | rfl | rfl | rfl | rfl | rfl | rfl <;> exact IV.eqv_refl _)) ?_ ?_)
 | (refine callN_q (k := 12) fnok_12 (edAp_p s N hs hN) ?_ ?_)
 | (refine callN_q (k := 12) fnok_12 (edAp_p (edS s N) N hE hN) ?_ ?_)
 | (refine callN_q (k := 31) fnok_31 (rprt_p N s.ch hN) ?_ ?_)
 | (refine callN_q (k := 32) fnok_32 (Apply_p s.n s.f (prt N s.ch).k (prt N s.ch).o hs.n hs.f hP.k hP.o) ?_ ?_))
 | ((with_reducible show callGN _ _ _ _ _ _ _ _ _ _); first
 | (refine callGN_q (k := 33) fnok_33 (fun hg => rhas_p s.q s.dn ((prt N s.ch).a i) hs.q) ?_ ?_)
 | (refine callGN_q (k := 33) fnok_33 (fun hg => rhas_p (s.q + 1) (dnI s.q s.dn N.nu) N.nu hE.q) ?_ ?_)
 | (refine callGN_q (k := 33) fnok_33 (fun hg => rhas_p (s.q + 1) (dnI s.q s.dn N.nu) (s.dn i) hE.q) ?_ ?_)
 | (refine callGN_q (k := 34) fnok_34 (fun hg => sheet_p (edS s N) hE) ?_ ?_)
 | (refine callGN_q (k := 14) fnok_14 (fun hg => rsame_p (edS s N) (edS s N) hE hE) ?_ ?_))
 | ((with_reducible refine hR12 _ (i + 1) ?_); (try clear hR12 KR))
 | ((with_reducible refine hR26 _ (i + 1) ?_); (try clear hR26 KR))
 | ((with_reducible refine Told.mk ?_); simp only [go_sem, reduceIte, reduceCtorEq, xA, xL, xD, xE, xM, xS, xB, hf, beq_self_eq_true, Bool.and_self, intI, pj_prt, hb, mssI_q, h0, (ApS_0 h0).1, h2, h3, h4, h5, h6, seqB_r, hsx, hqq, edS_0] <;> ((((try simp (disch := omega) only [seaWrap, Int.natCast_add, Int.cast_ofNat_Int, and_true, true_and, and_self]); (repeat' (first | omega | rfl | (with_reducible refine And.intro ?_ ?_) | ((rw [mssI_s])))); done))))
 | ((fail_if_success (with_reducible show AW _ _ _ _)); simp (maxSteps := 2000000) only [go_sem, reduceIte, reduceCtorEq, xA, xL, xD, xE, xM, xS, xB, Tryz.f4, hf, beq_self_eq_true, Bool.and_self, intI, pj_prt, hb, mssI_q, h0, (ApS_0 h0).1, h2, h3, h4, h5, h6, seqB_r, hsx, hqq, edS_0])
 | ((fail_if_success (with_reducible show AW _ _ _ _)); simp (disch := omega) only [seaWrap, seaDiv, seaMod])
 | ((with_reducible refine hK _ ?_); clear hK K)
 | (with_reducible apply_assumption -exfalso only [*]))
theorem app_law (s : ShtS) (N : NotS) (hs : s.Ok) (hN : N.Ok) : CallsP Tryz.prog 4 [(shP s), (noP N)] (.t (.one (.g (.bool (true))))) := by
  cases hf : fewB s 1 (fun _ => N) with
  | false => exact app_1 s N hs hN hf
  | true =>
    cases hB : prtB N s.ch with
    | false => exact app_2 s N hs hN hf (pvv_f hB) (by have := ed_n0 (s := s) hB; simp [this])
    | true =>
      have hv := pvv_t hB
      have hP : (prt N s.ch).Ok := hN.p _ hv.2
      by_cases h1 : ApE s N = 1
      · exact app_2b s N hs hN hf hv.1 h1
      by_cases h0 : ApE s N = 0
      · have e := ed_ok h0
        exact app_4 s N hs hN hf hv.1 hv.2 hP (sht_ok e.1) h0 (ed_again h0) e.2.2.2.2.2.2.2.2 e.2.2.2.2.2.2.1 e.1 (by rw [has_dn]; simp) (fun i hi => by rw [has_dn]; simp only [Bool.or_eq_true, decide_eq_true_eq]; exact Or.inr (decide_eq_true ⟨i, hi, rfl⟩)) e.2.2.2.2.2.2.2.1
      · exact app_3 s N hs hN hf hv.1 hv.2 hP h0 h1 hB
end Go.Proofs.YtdhgiklbkmkblaaGreat
set_option maxRecDepth 100000
set_option maxHeartbeats 4000000
namespace Go.Proofs.YtdhgiklbkmkblaaGreat
open Go.RowKit Go.Sea
open Nat renaming reduceAdd → xA, reduceLT → xL, reduceLeDiff → xD, reduceEqDiff → xE, reduceMul → xM, reduceSub → xS, reduceBEq → xB
attribute [go_sem] fnok_10 fnok_11
def msB (s : ShtS) (N : Nat → NotS) (i : Nat) : Bool := decide ((lakL s N i).length ≠ 0)
theorem msB_s (s : ShtS) (N : Nat → NotS) (i : Nat) : msB s N (i + 1) = (msB s N i || lakP s N i) := by
  unfold msB
  cases h : lakP s N i with
  | true => rw [lakL_t h]; simp
  | false => rw [lakL_f h]; simp
theorem lak_0 (s : ShtS) (N : Nat → NotS) : ∀ i, (lakL s N i).length = 0 → ∀ k, k < i → lakP s N k = false
  | 0, _, k, h => by omega
  | i + 1, h, k, hk => by
    cases hp : lakP s N i with
    | true => rw [lakL_t hp] at h; simp at h
    | false =>
      rw [lakL_f hp] at h
      rcases Nat.lt_or_ge k i with g | g
      · exact lak_0 s N i h k g
      · obtain rfl : k = i := by omega
        exact hp
theorem lak_hd (s : ShtS) (N : Nat → NotS) : ∀ i, (lakL s N i).length ≠ 0 → ∃ j, j < i ∧ lakP s N j = true ∧ zL (lakL s N i) 0 = (N j).nu ∧ ∀ k, k < j → lakP s N k = false
  | 0, h => absurd rfl h
  | i + 1, h => by
    by_cases h0 : (lakL s N i).length = 0
    · cases hp : lakP s N i with
      | false => rw [lakL_f hp] at h; exact absurd h0 h
      | true =>
        refine ⟨i, by omega, hp, ?_, lak_0 s N i h0⟩
        rw [lakL_t hp, List.length_eq_zero_iff.1 h0]; rfl
    · obtain ⟨j, h1, h2, h3, h4⟩ := lak_hd s N i h0
      refine ⟨j, by omega, h2, ?_, h4⟩
      cases hp : lakP s N i with
      | false => rw [lakL_f hp]; exact h3
      | true =>
        rw [lakL_t hp, ← h3]
        cases hl : lakL s N i with
        | nil => rw [hl] at h0; exact absurd rfl h0
        | cons a t => rfl
theorem upL_c (N : Nat → NotS) (mst : Int) : ∀ k, upL N mst k = 0 ∨ ∃ j, j < k ∧ upL N mst k = (N j).nu ∧ (N j).nu < mst
  | 0 => Or.inl rfl
  | k + 1 => by
    by_cases h : (N k).nu < mst
    · exact Or.inr ⟨k, by omega, upL_t h, h⟩
    · rw [upL_f (by omega)]
      rcases upL_c N mst k with g | ⟨j, h1, h2⟩
      · exact Or.inl g
      · exact Or.inr ⟨j, by omega, h2⟩
theorem upL_ge {N : Nat → NotS} {mst : Int} {n : Nat} (hr : ∀ i j, i < j → j < n → (N i).nu < (N j).nu) : ∀ k, k ≤ n → ∀ i, i < k → (N i).nu < mst → (N i).nu ≤ upL N mst k
  | 0, _, i, h, _ => by omega
  | k + 1, hk, i, h, hm => by
    by_cases hc : (N k).nu < mst
    · rw [upL_t hc]
      rcases Nat.lt_or_ge i k with g | g
      · have := hr i k g (by omega); omega
      · obtain rfl : i = k := by omega
        exact Int.le_refl _
    · rw [upL_f (by omega)]
      refine upL_ge hr k (by omega) i ?_ hm
      rcases Nat.lt_or_ge i k with g | g
      · exact g
      · obtain rfl : i = k := by omega
        exact absurd hm hc
theorem num_r {s : ShtS} {n : Nat} {N : Nat → NotS} (hB : mkB s n N = true) : (∀ i j, i < j → j < n → (N i).nu < (N j).nu) ∧ (∀ i, i < n → 1 ≤ (N i).nu ∧ (N i).nu ≤ 10000) := by
  have h := (nts_n (mk_spl hB).2.1).2
  exact ⟨fun i j => nts_rise h j, fun i hi => not_nu (h i hi).1⟩
theorem num_4 {s : ShtS} {n : Nat} {N : Nat → NotS} (hB : mkB s n N = true) : (msB s N n == (NxE s n N == 0)) = true ∧ 0 ≤ UpV s n N := by
  refine ⟨?_, ?_⟩
  · unfold msB
    by_cases h : (lakL s N n).length = 0
    · rw [(nx_n hB h).2, h]; rfl
    · rw [(nx_t hB h).2]; simp [h]
  · rw [(up_t hB).1]
    rcases upL_c N (mstI (lakL s N n)) n with h | ⟨j, h1, h2, _⟩
    · omega
    · have := (num_r hB).2 j h1; omega
theorem num_m {s : ShtS} {n : Nat} {N : Nat → NotS} (hB : mkB s n N = true) {i : Nat} (hi : i < n) (h : lakP s N i = true) : mstI (lakL s N n) ≤ (N i).nu ∧ 0 < mstI (lakL s N n) ∧ (lakL s N n).length ≠ 0 := by
  have h0 : (lakL s N n).length ≠ 0 := fun e => by rw [lak_0 s N n e i hi] at h; cases h
  obtain ⟨j, h1, h2, h3, h4⟩ := lak_hd s N n h0
  rw [mst_t h0, h3]
  have hr := num_r hB
  refine ⟨?_, by have := hr.2 j h1; omega, h0⟩
  rcases Nat.lt_trichotomy j i with g | g | g
  · have := hr.1 j i g hi; omega
  · subst g; exact Int.le_refl _
  · rw [h4 i g] at h; cases h
theorem num_2 {s : ShtS} {n : Nat} {N : Nat → NotS} (hB : mkB s n N = true) {i : Nat} (hi : i < n) (h : lakP s N i = true) : UpV s n N < (N i).nu := by
  have g := num_m hB hi h
  rw [(up_t hB).1]
  rcases upL_c N (mstI (lakL s N n)) n with e | ⟨j, h1, h2, h3⟩ <;> omega
theorem num_1 {s : ShtS} {n : Nat} {N : Nat → NotS} (hB : mkB s n N = true) {i : Nat} (hi : i < n) (h : lakP s N i = true) (h0 : msB s N i = false) : NxE s n N = 0 ∧ NxV s n N = (N i).nu := by
  have g := num_m hB hi h
  have e := nx_t hB g.2.2
  refine ⟨e.2, ?_⟩
  rw [e.1]
  obtain ⟨j, h1, h2, h3, h4⟩ := lak_hd s N n g.2.2
  rw [h3]
  have hi0 : (lakL s N i).length = 0 := by unfold msB at h0; simpa using h0
  have hl := lak_0 s N i hi0
  rcases Nat.lt_trichotomy j i with k | k | k
  · rw [hl j k] at h2; cases h2
  · rw [k]
  · rw [h4 i k] at h; cases h
theorem num_3 {s : ShtS} {n : Nat} {N : Nat → NotS} (hB : mkB s n N = true) {i : Nat} (hi : i < n) (h : msB s N (i + 1) = false) : (N i).nu ≤ UpV s n N := by
  have hr := num_r hB
  have hl := lak_0 s N (i + 1) (by unfold msB at h; simpa using h)
  rw [(up_t hB).1]
  refine upL_ge hr.1 n (Nat.le_refl n) i hi ?_
  by_cases h0 : (lakL s N n).length = 0
  · rw [mst_n h0]; have := hr.2 i hi; omega
  · obtain ⟨j, h1, h2, h3, h4⟩ := lak_hd s N n h0
    rw [mst_t h0, h3]
    refine hr.1 i j ?_ h1
    rcases Nat.lt_or_ge i j with k | k
    · exact k
    · rw [hl j (by omega)] at h2; cases h2
theorem num_b {s : ShtS} {n : Nat} {N : Nat → NotS} (hB : mkB s n N = true) {i : Nat} (hi : i < n) : ((decide ((N i).nu > UpV s n N) || !cncB (N i) s.ch || hasL s.q s.dn (N i).nu) && (msB s N (i + 1) || decide ((N i).nu ≤ UpV s n N))) = true := by
  simp only [Bool.and_eq_true, Bool.or_eq_true, decide_eq_true_eq, Bool.not_eq_true']
  refine ⟨?_, ?_⟩
  · cases h1 : cncB (N i) s.ch with
    | false => exact Or.inl (Or.inr rfl)
    | true =>
      cases h2 : hasL s.q s.dn (N i).nu with
      | true => exact Or.inr rfl
      | false => exact Or.inl (Or.inl (num_2 hB hi (by unfold lakP; rw [h1, h2]; rfl)))
  · cases h : msB s N (i + 1) with
    | true => exact Or.inl rfl
    | false => exact Or.inr (num_3 hB hi h)
theorem num_s1 {s : ShtS} {N : Nat → NotS} {i : Nat} (hc : (cncB (N i) s.ch = true ∧ hasL s.q s.dn (N i).nu = false) ∧ msB s N i = false) : true = msB s N (i + 1) := by
  rw [msB_s]; unfold lakP; rw [hc.1.1, hc.1.2]; simp
theorem num_s2 {s : ShtS} {N : Nat → NotS} {i : Nat} (hc : (cncB (N i) s.ch = false ∨ hasL s.q s.dn (N i).nu = true) ∨ msB s N i = true) : msB s N i = msB s N (i + 1) := by
  rw [msB_s]; unfold lakP; rcases hc with (h | h) | h <;> rw [h] <;> simp
theorem num_c1 {s : ShtS} {n : Nat} {N : Nat → NotS} (hB : mkB s n N = true) {i : Nat} (hi : i < n) (hc : (cncB (N i) s.ch = true ∧ hasL s.q s.dn (N i).nu = false) ∧ msB s N i = false) : (NxE s n N == 0 && NxV s n N == (N i).nu && decide (UpV s n N < NxV s n N) && (decide ((N i).nu > UpV s n N) || !cncB (N i) s.ch || hasL s.q s.dn (N i).nu)) = true := by
  have hp : lakP s N i = true := by unfold lakP; rw [hc.1.1, hc.1.2]; rfl
  have g1 := num_1 hB hi hp hc.2
  have g2 := num_2 hB hi hp
  rw [g1.1, g1.2]; simp [g2]
theorem num_c2 {s : ShtS} {n : Nat} {N : Nat → NotS} (hB : mkB s n N = true) {i : Nat} (hi : i < n) (hc : (cncB (N i) s.ch = false ∨ hasL s.q s.dn (N i).nu = true) ∨ msB s N i = true) : ((decide ((N i).nu > UpV s n N) || !cncB (N i) s.ch || hasL s.q s.dn (N i).nu) && (msB s N i || decide ((N i).nu ≤ UpV s n N))) = true := by
  have g := num_b hB hi
  rwa [← num_s2 hc] at g
theorem num_e {s : ShtS} {n : Nat} {N : Nat → NotS} (hB : mkB s n N = true) {i : Nat} (hi : i ≤ n) (h : (n : Int) ≤ i) : (msB s N i == (NxE s n N == 0) && decide (UpV s n N ≥ 0)) = true := by
  obtain rfl : i = n := by omega
  have g := num_4 hB
  rw [Bool.and_eq_true]
  exact ⟨g.1, decide_eq_true g.2⟩
theorem num_f (s : ShtS) (n : Nat) (N : Nat → NotS) (hs : s.Ok) (hn : n ≤ 9223372036854775807) (hN : ∀ i, i < n → (N i).Ok) (hf : fewB s n N = false) : CallsP Tryz.prog 5 [(shP s), .one (.lst 7 n (notF N))] (.t (.one (.g (.bool (true))))) := by
  refine CallsP_of Tryz.func5 rfl (by rw [Tryz.ntmps5]; simp) ?_
  simp only [shP, Tryz.ntmps5, zM, PT.tv, argEnv, Nat.zero_add, Nat.reduceAdd]
  repeat' (first
 | ((with_reducible show AW _ _ _ _); first
 | (with_reducible first | refine aS (fun K hK => ?_) | refine aT ?_ | refine aC ?_)
 | (first
 | (with_reducible first | refine aP 0 [0,1] ?_ | refine aP 1 [1,2] ?_ | refine aP 2 [1,2,5] ?_ | refine aP 3 [5] ?_)))
 | (((with_reducible refine Need.mk ?_)); focus (exact True.intro))
 | (with_reducible refine retK_n ?_)
 | ((with_reducible show condN _ _ _ _ _ _); first
 | ((with_reducible refine condN_t ?_ ?_) <;> (intro hc; (try simp only [zB, zC, reduceCtorEq] at hc); (try (exfalso; contradiction)))))
 | ((with_reducible show callN _ _ _ _ _ _ _ _ _ _); first
 | (refine callN_q (k := 10) fnok_10 (head_p) ?_ ?_)
 | (refine callN_q (k := 11) fnok_11 (few_p s n N hs hn hN) ?_ ?_))
 | ((fail_if_success (with_reducible show AW _ _ _ _)); simp (maxSteps := 2000000) only [go_sem, reduceIte, reduceCtorEq, xA, xL, xD, xE, xM, xS, xB, Tryz.f5, hf, beq_self_eq_true, Bool.and_self, intI])
 | ((with_reducible refine hK _ ?_); clear hK K))
theorem num_n (s : ShtS) (n : Nat) (N : Nat → NotS) (hs : s.Ok) (hn : n ≤ 9223372036854775807) (hN : ∀ i, i < n → (N i).Ok) (hf : fewB s n N = true) (h1 : UpE s n N = 1) (h2 : NxE s n N = 1) : CallsP Tryz.prog 5 [(shP s), .one (.lst 7 n (notF N))] (.t (.one (.g (.bool (true))))) := by
  refine CallsP_of Tryz.func5 rfl (by rw [Tryz.ntmps5]; simp) ?_
  simp only [shP, Tryz.ntmps5, zM, PT.tv, argEnv, Nat.zero_add, Nat.reduceAdd]
  repeat' (first
 | ((with_reducible show AW _ _ _ _); first
 | (with_reducible first | refine aS (fun K hK => ?_) | refine aI ?_ | refine aT ?_ | refine aC ?_)
 | (first
 | (with_reducible first | refine aP 0 [0,1] ?_ | refine aP 1 [1,2] ?_ | refine aP 2 [1,2,5] ?_ | refine aP 4 [1,2,5] ?_ | refine aP 5 [1,2,5,6,7] ?_ | refine aP 6 [1,2,5,6,7,8,9] ?_ | refine aP 7 [5,7,9] ?_)))
 | (((with_reducible refine Need.mk ?_)); focus (exact True.intro))
 | (with_reducible refine retK_n ?_)
 | ((with_reducible show condN _ _ _ _ _ _); first
 | ((with_reducible refine condN_t ?_ ?_) <;> (intro hc; (try simp only [zB, zC, reduceCtorEq] at hc); (try (exfalso; contradiction)))))
 | ((with_reducible show callN _ _ _ _ _ _ _ _ _ _); first
 | (refine callN_q (k := 10) fnok_10 (head_p) ?_ ?_)
 | (refine callN_q (k := 11) fnok_11 (few_p s n N hs hn hN) ?_ ?_)
 | (refine callN_q (k := 23) fnok_23 (up_p s n N hs hn hN) ?_ ?_)
 | (refine callN_q (k := 25) fnok_25 (nx_p s n N hs hn hN) ?_ ?_))
 | ((fail_if_success (with_reducible show AW _ _ _ _)); simp (maxSteps := 2000000) only [go_sem, reduceIte, reduceCtorEq, xA, xL, xD, xE, xM, xS, xB, Tryz.f5, hf, beq_self_eq_true, Bool.and_self, intI, h1, h2])
 | ((with_reducible refine hK _ ?_); clear hK K))
theorem num_y (s : ShtS) (n : Nat) (N : Nat → NotS) (hs : s.Ok) (hn : n ≤ 9223372036854775807) (hN : ∀ i, i < n → (N i).Ok) (hf : fewB s n N = true) (hB : mkB s n N = true) (h1 : UpE s n N = 0) : CallsP Tryz.prog 5 [(shP s), .one (.lst 7 n (notF N))] (.t (.one (.g (.bool (true))))) := by
  refine CallsP_of Tryz.func5 rfl (by rw [Tryz.ntmps5]; simp) ?_
  simp only [shP, Tryz.ntmps5, zM, PT.tv, argEnv, Nat.zero_add, Nat.reduceAdd]
  repeat' (first
 | ((with_reducible show AW _ _ _ _); first
 | (with_reducible first | refine aS (fun K hK => ?_) | refine aI ?_ | refine aX ?_ | refine aT ?_ | refine aC ?_ | refine aB ?_)
 | (first
 | (with_reducible first | refine aP 0 [0,1] ?_ | refine aP 1 [1,2] ?_ | refine aP 2 [1,2,5] ?_ | refine aP 4 [1,2,5] ?_ | refine aP 5 [1,2,5,6,7] ?_ | refine aP 6 [1,2,5,6,7,8,9] ?_ | refine aP 8 [1,2,5,6,8,9] ?_ | refine aP 9 [1,2,5,6,8,9,10] ?_ | refine aP 10 [2,5,6,8,9,10,45,46,47] ?_ | refine aP 11 [2,5,6,8,9,10,45,46,47] ?_ | refine aP 12 [2,5,6,8,9,10,12,45,46,47] ?_ | refine aP 13 [2,5,6,8,9,10,12,13,45,46,47] ?_ | refine aP 14 [2,5,6,8,9,10,12,13,14,45,46,47] ?_ | refine aP 15 [2,5,6,8,9,12,13,14,45,46,47] ?_ | refine aP 16 [2,5,6,8,9,10,12,13,14,45,46,47] ?_ | refine aP 17 [2,5,6,8,9,10,12,13,14,45,46,47] ?_ | refine aP 18 [2,5,6,8,9,10,45,46,47] ?_ | refine aP 19 [5,6,9,10] ?_))
 | ((with_reducible show AW _ (Code.loop _) _ _); first
 | ((with_reducible refine aL (c := (Code.seq (Code.region 10 _ _) _)) (ι := Nat) [2,6,8,9,45,46] (fun i => [(5, .t (.one (.iv (.g (.bool true))))), (10, .t (.one (.iv (.g (.bool (msB s N i)))))), (47, iA .i64 (i : Int))]) (fun i => []) (fun i => i ≤ n) (fun i => n - i) 0 ?lg10 ?l110 ?l210 ?li10 ?lr10); (case' lg10 => rintro i _); (case' li10 => try (omega)); (case' lr10 => rintro i hi KR hR10; simp only [keepE, hupd, hset, lk, if_true, if_false, xE, reduceIte, zN, hf, beq_self_eq_true, Bool.and_self, h1]))))
 | ((first | (with_reducible refine And.intro ?_ ?_) | (with_reducible refine Need.mk ?_)); focus (first | exact True.intro | omega | (simp; done) | (simp; omega) | (simp +contextual; done)))
 | (with_reducible refine retK_n ?_)
 | ((with_reducible show condN _ _ _ _ _ _); first
 | ((with_reducible refine condN_t ?_ ?_) <;> (intro hc; (try simp only [zB, zC, reduceCtorEq] at hc); (try (exfalso; contradiction)))))
 | ((with_reducible show callN _ _ _ _ _ _ _ _ _ _); first
 | (refine callN_q (k := 10) fnok_10 (head_p) ?_ ?_)
 | (refine callN_q (k := 11) fnok_11 (few_p s n N hs hn hN) ?_ ?_)
 | (refine callN_q (k := 23) fnok_23 (up_p s n N hs hn hN) ?_ ?_)
 | (refine callN_q (k := 25) fnok_25 (nx_p s n N hs hn hN) ?_ ?_)
 | (refine callN_q (k := 35) fnok_35 (rcnc_p (N i) s.ch (hN i (by omega))) ?_ ?_)
 | (refine callN_q (k := 33) fnok_33 (rhas_p s.q s.dn (N i).nu hs.q) ?_ ?_))
 | ((with_reducible refine hR10 _ (i + 1) ?_); (try clear hR10 KR))
 | ((with_reducible refine Told.mk ?_); simp only [go_sem, reduceIte, reduceCtorEq, xA, xL, xD, xE, xM, xS, xB, hf, beq_self_eq_true, Bool.and_self, intI, h1] <;> ((((try simp (disch := omega) only [seaWrap, Int.natCast_add, Int.cast_ofNat_Int, and_true, true_and, and_self]); (repeat' (first | omega | rfl | (with_reducible refine And.intro ?_ ?_) | ((exact num_c1 hB (by omega) (by assumption))) | ((exact num_c2 hB (by omega) (by assumption))) | ((exact num_s1 (by assumption))) | ((exact num_s2 (by assumption))))); done))))
 | ((fail_if_success (with_reducible show AW _ _ _ _)); simp (maxSteps := 2000000) only [go_sem, reduceIte, reduceCtorEq, xA, xL, xD, xE, xM, xS, xB, Tryz.f5, hf, beq_self_eq_true, Bool.and_self, intI, h1])
 | ((with_reducible refine hK _ ?_); clear hK K)
 | (with_reducible apply_assumption -exfalso only [*]))
  all_goals (exact num_e hB hi (by assumption))
theorem num_law (s : ShtS) (n : Nat) (N : Nat → NotS) (hs : s.Ok) (hn : n ≤ 9223372036854775807) (hN : ∀ i, i < n → (N i).Ok) : CallsP Tryz.prog 5 [(shP s), .one (.lst 7 n (notF N))] (.t (.one (.g (.bool (true))))) := by
  cases hf : fewB s n N with
  | false => exact num_f s n N hs hn hN hf
  | true =>
    cases hB : mkB s n N with
    | false => exact num_n s n N hs hn hN hf (up_bad hB).2 (nx_bad hB).2
    | true => exact num_y s n N hs hn hN hf hB (up_t hB).2
end Go.Proofs.YtdhgiklbkmkblaaGreat
set_option maxRecDepth 100000
set_option maxHeartbeats 4000000
namespace Go.Proofs.YtdhgiklbkmkblaaGreat
open Go.RowKit Go.Sea
open Nat renaming reduceAdd → xA, reduceLT → xL, reduceLeDiff → xD, reduceEqDiff → xE, reduceMul → xM, reduceSub → xS, reduceBEq → xB
theorem ar_39 : arD Tryz.prog 39 = none := by kernel_rfl
theorem fnok_18 : fnOk Tryz.prog 18 = true := by kernel_rfl
theorem of_43_0 : offOf Tryz.prog 43 0 = some 0 := by kernel_rfl
attribute [go_sem] ar_39 fnok_10 fnok_11 fnok_18 of_43_0
def LN (n : Nat) (N : Nat → NotS) : List NotS := (List.range n).map N
theorem LN_s (n : Nat) (N : Nat → NotS) : LN (n + 1) N = LN n N ++ [N n] := by unfold LN; rw [List.range_succ, List.map_append]; rfl
theorem LN_len (n : Nat) (N : Nat → NotS) : (LN n N).length = n := by simp [LN]
theorem LN_get {n i : Nat} {N : Nat → NotS} (h : i < (LN n N).length) : (LN n N)[i] = N i := by simp [LN]
theorem LN_mem {n : Nat} {N : Nat → NotS} {a : NotS} : a ∈ LN n N ↔ ∃ i, i < n ∧ N i = a := by simp [LN]
def ntL (N : Nat → NotS) (ch : Int) (n : Nat) : List NotS := (LN n N).filter fun a => cncB a ch
def ntM (N : Nat → NotS) (ch : Int) (n : Nat) (i : Nat) : NotS := (ntL N ch n).getD i not0
theorem ntL_0 (N : Nat → NotS) (ch : Int) : ntL N ch 0 = [] := rfl
theorem ntL_t {N : Nat → NotS} {ch : Int} {i : Nat} (h : cncB (N i) ch = true) : ntL N ch (i + 1) = ntL N ch i ++ [N i] := by unfold ntL; rw [LN_s, List.filter_append]; simp [h]
theorem ntL_f {N : Nat → NotS} {ch : Int} {i : Nat} (h : cncB (N i) ch = false) : ntL N ch (i + 1) = ntL N ch i := by unfold ntL; rw [LN_s, List.filter_append]; simp [h]
theorem ntL_le (N : Nat → NotS) (ch : Int) (n : Nat) : (ntL N ch n).length ≤ n := by
  have := List.length_filter_le (fun a => cncB a ch) (LN n N)
  rwa [LN_len] at this
theorem ntL_mem {N : Nat → NotS} {ch : Int} {n : Nat} {a : NotS} : a ∈ ntL N ch n ↔ ∃ i, i < n ∧ N i = a ∧ cncB a ch = true := by
  unfold ntL; rw [List.mem_filter, LN_mem]
  exact ⟨fun ⟨⟨i, h1, h2⟩, h3⟩ => ⟨i, h1, h2, h3⟩, fun ⟨i, h1, h2, h3⟩ => ⟨⟨i, h1, h2⟩, h3⟩⟩
theorem getD_in {α : Type} {l : List α} {i : Nat} {d : α} (h : i < l.length) : l.getD i d ∈ l := by
  rw [List.getD, List.getElem?_eq_getElem h]; exact List.getElem_mem h
theorem ntM_mem {N : Nat → NotS} {ch : Int} {n i : Nat} (h : i < (ntL N ch n).length) : ∃ j, j < n ∧ N j = ntM N ch n i ∧ cncB (ntM N ch n i) ch = true := ntL_mem.1 (getD_in h)
theorem LN_M (N : Nat → NotS) (ch : Int) (n : Nat) : LN (ntL N ch n).length (ntM N ch n) = ntL N ch n := by
  refine List.ext_getElem (by simp [LN]) fun i h1 h2 => ?_
  simp only [LN, List.getElem_map, List.getElem_range, ntM, List.getD, List.getElem?_eq_getElem h2, Option.getD_some]
theorem lakL_L (s : ShtS) (N : Nat → NotS) : ∀ i, lakL s N i = ((LN i N).filter fun a => cncB a s.ch && !hasL s.q s.dn a.nu).map NotS.nu
  | 0 => rfl
  | i + 1 => by
    rw [LN_s, List.filter_append, List.map_append, ← lakL_L s N i]
    cases h : lakP s N i with
    | true => rw [lakL_t h]; unfold lakP at h; simp [h]
    | false => rw [lakL_f h]; unfold lakP at h; simp [h]
theorem cnI_L (N : Nat → NotS) (ch : Int) : ∀ i, (cnI N ch i).map N = ntL N ch i
  | 0 => rfl
  | i + 1 => by
    cases h : cncB (N i) ch with
    | true => rw [cnI_t h, ntL_t h, List.map_append, cnI_L N ch i]; rfl
    | false => rw [cnI_f h, ntL_f h, cnI_L N ch i]
theorem ntL_M (N : Nat → NotS) (ch : Int) (n : Nat) : ntL (ntM N ch n) ch (ntL N ch n).length = ntL N ch n := by
  have e : ntL (ntM N ch n) ch (ntL N ch n).length = (ntL N ch n).filter fun a => cncB a ch := by
    show (LN (ntL N ch n).length (ntM N ch n)).filter (fun a => cncB a ch) = _
    rw [LN_M]
  rw [e]
  exact List.filter_eq_self.2 fun a ha => (ntL_mem.1 ha).elim fun i h => h.2.2
theorem lak_M (s : ShtS) (N : Nat → NotS) (n : Nat) : lakL s (ntM N s.ch n) (ntL N s.ch n).length = lakL s N n := by
  rw [lakL_L, LN_M, lakL_L]
  unfold ntL
  rw [List.filter_filter]
  congr 1
  exact List.filter_congr fun a _ => by cases cncB a s.ch <;> simp
theorem num_M (N : Nat → NotS) (ch : Int) (n : Nat) : numL (ntM N ch n) ch (ntL N ch n).length = numL N ch n := by
  have e : ∀ (N : Nat → NotS) (n : Nat), numL N ch n = (ntL N ch n).map NotS.nu := fun N n => by rw [← cnI_L]; simp [numL]
  rw [e, e, ntL_M]
theorem stp_M (N : Nat → NotS) (ch : Int) (n : Nat) (ns : List Int) : stpL (ntM N ch n) ch ns (ntL N ch n).length = stpL N ch ns n := by
  have e : ∀ (N : Nat → NotS) (n : Nat), stpL N ch ns n = (ntL N ch n).map fun a => stpO ns a (prt a ch) := fun N n => by rw [← cnI_L]; simp [stpL]
  rw [e, e, ntL_M]
theorem ops_M (N : Nat → NotS) (ch : Int) (n : Nat) : opsL (ntM N ch n) ch (ntL N ch n).length = opsL N ch n := by
  have e : ∀ (N : Nat → NotS) (n : Nat), opsL N ch n = (ntL N ch n).map fun a => prt a ch := fun N n => by rw [← cnI_L]; simp [opsL]
  rw [e, e, ntL_M]
theorem nts_M {N : Nat → NotS} {n : Nat} (ch : Int) (h : ntsB n N = true) : ntsB (ntL N ch n).length (ntM N ch n) = true := by
  have hn := nts_n h
  have hle := ntL_le N ch n
  refine decide_eq_true ⟨by omega, fun i hi => ?_⟩
  have hoc : ∀ a, a < (ntL N ch n).length → (ntM N ch n a).oc = (N 0).oc := fun a ha => by
    obtain ⟨j, h1, h2, _⟩ := ntM_mem ha
    rw [← h2]; exact (hn.2 j h1).2.1
  refine ⟨?_, (hoc i hi).trans (hoc 0 (by omega)).symm, fun h0 => ?_⟩
  · obtain ⟨j, h1, h2, _⟩ := ntM_mem hi
    rw [← h2]; exact (hn.2 j h1).1
  · have hp : (LN n N).Pairwise fun a b => a.nu < b.nu := by
      rw [List.pairwise_iff_getElem]
      intro i j hi hj hij
      rw [LN_get, LN_get]
      exact nts_rise hn.2 j hij (by simpa [LN_len] using hj)
    have hq : (ntL N ch n).Pairwise fun a b => a.nu < b.nu := hp.filter _
    have := List.pairwise_iff_getElem.1 hq (i - 1) i (by omega) hi (by omega)
    show ((ntL N ch n).getD (i - 1) not0).nu < ((ntL N ch n).getD i not0).nu
    rw [List.getD, List.getD, List.getElem?_eq_getElem hi, List.getElem?_eq_getElem (by omega : i - 1 < _)]
    exact this
theorem fnd_at {n : Nat} {N : Nat → NotS} (h : ∀ i, i < n → notO N i) {i : Nat} (hi : i < n) : fndJ n N (N i).nu = i :=
  fstB_h (b := fun j => decide ((N j).nu = (N i).nu)) (decide_eq_true rfl) (fun j hj => decide_eq_false (by have := nts_rise h i hj hi; omega)) n hi
theorem fnd_M {N : Nat → NotS} {n : Nat} {ch : Int} (h : ntsB n N = true) {i : Nat} (hi : i < n) (hc : cncB (N i) ch = true) :
    fndJ n N (N i).nu = i ∧ fndJ (ntL N ch n).length (ntM N ch n) (N i).nu < (ntL N ch n).length ∧ ntM N ch n (fndJ (ntL N ch n).length (ntM N ch n) (N i).nu) = N i := by
  have e1 := fnd_at (nts_n h).2 hi
  obtain ⟨p, hp, e⟩ := List.getElem_of_mem (ntL_mem.2 ⟨i, hi, rfl, hc⟩ : N i ∈ ntL N ch n)
  have eM : ntM N ch n p = N i := by unfold ntM; rw [List.getD, List.getElem?_eq_getElem hp]; exact e
  have e2 := fnd_at (nts_n (nts_M ch h)).2 hp
  rw [eM] at e2
  exact ⟨e1, by rw [e2]; exact hp, by rw [e2]; exact eM⟩
theorem fstB_congr {b c : Nat → Bool} : ∀ k, (∀ j, j < k → b j = c j) → fstB b k = fstB c k
  | 0, _ => rfl
  | k + 1, h => by
    have e := fstB_congr k fun j hj => h j (by omega)
    show (if fstB b k < k then fstB b k else if b k = true then k else k + 1) = (if fstB c k < k then fstB c k else if c k = true then k else k + 1)
    rw [e, h k (by omega)]
theorem cor_congr {s : ShtS} {n m : Nat} {N M : Nat → NotS} {k : Nat} {od : Nat → Int} (hB : ntsB n N = true) (hM : ntsB m M = true) (h : ∀ j, j < k → fndJ n N (od j) < n ∧ fndJ m M (od j) < m ∧ M (fndJ m M (od j)) = N (fndJ n N (od j))) :
    CorS s m M k od = CorS s n N k od ∧ CorE s m M k od = CorE s n N k od ∧ CorI s m M k od = CorI s n N k od := by
  have hS : ∀ i, i ≤ k → corS s m M od i = corS s n N od i := fun i => by
    induction i with
    | zero => intro _; rfl
    | succ i ih =>
      intro hi
      show edS (corS s m M od i) (M (fndJ m M (od i))) = edS (corS s n N od i) (N (fndJ n N (od i)))
      rw [ih (by omega), (h i (by omega)).2.2]
  have hE : ∀ i, i < k → stpE (corS s m M od i) m M (od i) = stpE (corS s n N od i) n N (od i) := fun i hi => by
    unfold stpE
    rw [if_pos (h i hi).1, if_pos (h i hi).2.1, hS i (by omega), (h i hi).2.2]
  have hJ : corJ s m M k od = corJ s n N k od := fstB_congr k fun j hj => by rw [hE j hj]
  have hb : corB s m M k = corB s n N k := by unfold corB; rw [hB, hM]
  unfold CorS CorE CorI
  rw [hb, hJ]
  refine ⟨?_, ?_, rfl⟩
  · rw [hS k (Nat.le_refl k)]
  · by_cases h1 : corB s n N k = true
    · rw [if_pos h1, if_pos h1]
      by_cases h2 : corJ s n N k od < k
      · rw [if_pos h2, if_pos h2, hE _ h2]
      · rw [if_neg h2, if_neg h2]
    · rw [if_neg h1, if_neg h1]
theorem lak_nu {s : ShtS} {N : Nat → NotS} {n j : Nat} (h : j < (lakL s N n).length) : ∃ i, i < n ∧ lakP s N i = true ∧ zL (lakL s N n) j = (N i).nu := by
  have hm : zL (lakL s N n) j ∈ lakL s N n := getD_in h
  rw [lakL_L] at hm
  obtain ⟨a, ha, e⟩ := List.mem_map.1 hm
  rw [List.mem_filter, LN_mem] at ha
  obtain ⟨⟨i, h1, h2⟩, h3⟩ := ha
  refine ⟨i, h1, ?_, ?_⟩
  · unfold lakP; rw [h2]; exact h3
  · rw [lakL_L, ← e, h2]
theorem oth_cor {s : ShtS} {n : Nat} {N : Nat → NotS} (h : ntsB n N = true) : CorS s (ntL N s.ch n).length (ntM N s.ch n) (lakL s N n).length (zL (lakL s N n)) = CorS s n N (lakL s N n).length (zL (lakL s N n)) ∧ CorE s (ntL N s.ch n).length (ntM N s.ch n) (lakL s N n).length (zL (lakL s N n)) = CorE s n N (lakL s N n).length (zL (lakL s N n)) := by
  have g := cor_congr (s := s) (k := (lakL s N n).length) (od := zL (lakL s N n)) h (nts_M s.ch h) fun j hj => by
    obtain ⟨i, h1, h2, h3⟩ := lak_nu hj
    have hc : cncB (N i) s.ch = true := by unfold lakP at h2; simp only [Bool.and_eq_true] at h2; exact h2.1
    have e := fnd_M h h1 hc
    rw [h3, e.1]
    exact ⟨h1, e.2.1, e.2.2⟩
  exact ⟨g.1, g.2.1⟩
theorem oth_mk {s : ShtS} {n : Nat} {N : Nat → NotS} (h : ntsB n N = true) : MkS s (ntL N s.ch n).length (ntM N s.ch n) = MkS s n N ∧ MkE s (ntL N s.ch n).length (ntM N s.ch n) = MkE s n N ∧ NxV s (ntL N s.ch n).length (ntM N s.ch n) = NxV s n N ∧ NxE s (ntL N s.ch n).length (ntM N s.ch n) = NxE s n N ∧ StL (ntL N s.ch n).length (ntM N s.ch n) s.ch = StL n N s.ch ∧ OpL (ntL N s.ch n).length (ntM N s.ch n) s.ch = OpL n N s.ch ∧ StE (ntL N s.ch n).length (ntM N s.ch n) s.ch = StE n N s.ch := by
  have hM := nts_M s.ch h
  have hb : mkB s (ntL N s.ch n).length (ntM N s.ch n) = mkB s n N := by unfold mkB; rw [h, hM]
  have hb2 : StB (ntL N s.ch n).length (ntM N s.ch n) s.ch = StB n N s.ch := by unfold StB; rw [h, hM]
  have g := oth_cor (s := s) h
  unfold MkS MkE NxV NxE StL OpL StE
  rw [lak_M, hb, hb2, g.1, g.2, num_M, stp_M, ops_M]
  exact ⟨rfl, rfl, rfl, rfl, rfl, rfl, rfl⟩
def c7 (N : NotS) : List CV := [.iv (.g (.int .i64 N.oc)), .iv (.g (.int .i64 N.nu)), .iv (.g (.int .i64 N.kd)), .iv (.g (.int .i64 N.fr)), .iv (.g (.int .i64 N.un)), .iv (.g (.int .i64 N.ca)), .iv (.lst 3 N.n (partF N.p))]
def rowN (l : List NotS) : List CV := l.flatMap c7
theorem rowN_iv (l : List NotS) : ∀ c, c ∈ rowN l → isIv c := by
  intro c hc
  simp only [rowN, List.mem_flatMap, c7] at hc
  obtain ⟨s, _, h⟩ := hc
  simp at h
  rcases h with rfl | rfl | rfl | rfl | rfl | rfl | rfl <;> trivial
theorem rowN_len (l : List NotS) : (rowN l).length = l.length * 7 := by
  induction l with
  | nil => rfl
  | cons s l ih => simp only [rowN, List.flatMap_cons, List.length_append] at ih ⊢; rw [ih]; simp [c7]; omega
theorem rowN_pur (l : List NotS) (i : Nat) : List.map (CV.purge i) (rowN l) = rowN l := purge_iv i (rowN_iv l)
theorem rowN_frz (l : List NotS) (i : Nat) (cs : List CV) : List.map (frzC i cs) (rowN l) = rowN l := frz_iv _ (rowN_iv l)
theorem rowN_snoc (l : List NotS) (N : NotS) : rowN l ++ c7 N = rowN (l ++ [N]) := by simp [rowN]
theorem rowN_put (l : List NotS) (N : NotS) (i : Nat) : List.map (CV.purge i) (rowN l ++ [.iv (.g (.int .i64 N.oc)), .iv (.g (.int .i64 N.nu)), .iv (.g (.int .i64 N.kd)), .iv (.g (.int .i64 N.fr)), .iv (.g (.int .i64 N.un)), .iv (.g (.int .i64 N.ca)), .iv (.lst 3 N.n (partF N.p))]) = rowN (l ++ [N]) := by
  show List.map (CV.purge i) (rowN l ++ c7 N) = _
  rw [rowN_snoc]; exact rowN_pur _ _
theorem rowN_get : ∀ (l : List NotS) (i o : Nat), i < l.length → o < 7 → (rowN l).getD (i * 7 + o) .any = (c7 (l.getD i not0)).getD o .any
  | [], _, _, h, _ => by simp at h
  | s :: l, 0, o, _, ho => by
    show (c7 s ++ rowN l).getD (0 * 7 + o) .any = (c7 s).getD o .any
    rw [Nat.zero_mul, Nat.zero_add, List.getD, List.getD, List.getElem?_append_left (by show o < 7; exact ho)]
  | s :: l, i + 1, o, h, ho => by
    show (c7 s ++ rowN l).getD ((i + 1) * 7 + o) .any = (c7 (l.getD i not0)).getD o .any
    rw [← rowN_get l i o (by simpa using h) ho, List.getD, List.getD, List.getElem?_append_right (by show 7 ≤ _; omega)]
    congr 2
    show (i + 1) * 7 + o - 7 = _
    omega
theorem rowN_eqv (l : List NotS) : ∀ i o, i < l.length → o < 7 → (civ ((rowN l).getD (i * 7 + o) .any)).eqv (notG (l.getD i not0) o) := fun i o hi ho => by
  rw [rowN_get l i o hi ho]
  rcases (by omega : o = 0 ∨ o = 1 ∨ o = 2 ∨ o = 3 ∨ o = 4 ∨ o = 5 ∨ o = 6) with rfl | rfl | rfl | rfl | rfl | rfl | rfl <;> exact IV.eqv_refl _
theorem ntM_ok {n : Nat} {N : Nat → NotS} (hN : ∀ i, i < n → (N i).Ok) (ch : Int) (i : Nat) : (ntM N ch n i).Ok := by
  by_cases h : i < (ntL N ch n).length
  · obtain ⟨j, h1, h2, _⟩ := ntM_mem h
    rw [← h2]; exact hN j h1
  · unfold ntM; rw [List.getD, List.getElem?_eq_none (by omega)]; exact not0_ok
theorem mk_q (s : ShtS) (n : Nat) (N : Nat → NotS) (hs : s.Ok) (hn : n ≤ 9223372036854775807) (hN : ∀ i, i < n → (N i).Ok) (F : Nat → Nat → IV) (h : ∀ i o, i < n → o < 7 → (F i o).eqv (notG (N i) o)) : CallsP Tryz.prog 21 [(shP s), .one (.lst 7 n F)] (.tup [(shP (MkS s n N)), .one (.g (.int .i64 (MkE s n N)))]) := (mk_p s n N hs hn hN).eqv ⟨PT.eqv_refl _, ⟨rfl, rfl, h⟩, trivial⟩ (PV.eqv_refl _)
theorem nx_q (s : ShtS) (n : Nat) (N : Nat → NotS) (hs : s.Ok) (hn : n ≤ 9223372036854775807) (hN : ∀ i, i < n → (N i).Ok) (F : Nat → Nat → IV) (h : ∀ i o, i < n → o < 7 → (F i o).eqv (notG (N i) o)) : CallsP Tryz.prog 25 [(shP s), .one (.lst 7 n F)] (.tup [.one (.g (.int .i64 (NxV s n N))), .one (.g (.int .i64 (NxE s n N)))]) := (nx_p s n N hs hn hN).eqv ⟨PT.eqv_refl _, ⟨rfl, rfl, h⟩, trivial⟩ (PV.eqv_refl _)
theorem st_q (n : Nat) (N : Nat → NotS) (ch : Int) (hn : n ≤ 9223372036854775807) (hN : ∀ i, i < n → (N i).Ok) (F : Nat → Nat → IV) (h : ∀ i o, i < n → o < 7 → (F i o).eqv (notG (N i) o)) : CallsP Tryz.prog 15 [.one (.lst 7 n F), .one (.g (.int .i64 ch))] (.tup [.one (.lst 2 (StL n N ch).length (stpF (StL n N ch))), .one (.lst 1 (OpL n N ch).length (opsF (OpL n N ch))), .one (.g (.int .i64 (StE n N ch)))]) := (st_p n N ch hn hN).eqv ⟨⟨rfl, rfl, h⟩, PT.eqv_refl _, trivial⟩ (PV.eqv_refl _)
theorem oth_f (s : ShtS) (n : Nat) (N : Nat → NotS) (hs : s.Ok) (hn : n ≤ 9223372036854775807) (hN : ∀ i, i < n → (N i).Ok) (hf : fewB s n N = false) : CallsP Tryz.prog 7 [(shP s), .one (.lst 7 n (notF N))] (.t (.one (.g (.bool (true))))) := by
  refine CallsP_of Tryz.func7 rfl (by rw [Tryz.ntmps7]; simp) ?_
  simp only [shP, Tryz.ntmps7, zM, PT.tv, argEnv, Nat.zero_add, Nat.reduceAdd]
  repeat' (first
 | ((with_reducible show callGN _ _ false _ _ _ _ _ _ _); (with_reducible refine callGN_sq (fun h => by cases h) (fun _ => ?_)))
 | ((with_reducible show callGK _ _ false _ _ _ _); (with_reducible refine callGK_s (fun h => by cases h) (fun _ => ?_)))
 | ((with_reducible show AW _ _ _ _); first
 | (with_reducible first | refine aS (fun K hK => ?_) | refine aT ?_ | refine aC ?_)
 | ((with_reducible first | refine aP 0 [0,1] ?_ | refine aP 1 [1,2] ?_ | refine aP 2 [1,2,5] ?_ | refine aP 3 [5] ?_)))
 | (((with_reducible refine Need.mk ?_)); focus (exact True.intro))
 | (with_reducible refine retK_n ?_)
 | ((with_reducible show condN _ _ _ _ _ _); first
 | ((with_reducible refine condN_t ?_ ?_) <;> (intro hc; (try simp only [zB, zC, reduceCtorEq] at hc); (try (exfalso; contradiction)))))
 | ((with_reducible show callN _ _ _ _ _ _ _ _ _ _); first
 | (refine callN_q (k := 10) fnok_10 (head_p) ?_ ?_)
 | (refine callN_q (k := 11) fnok_11 (few_p s n N hs hn hN) ?_ ?_))
 | ((fail_if_success (with_reducible show AW _ _ _ _)); simp (maxSteps := 2000000) only [go_sem, reduceIte, reduceCtorEq, xA, xL, xD, xE, xM, xS, xB, Tryz.f7, hf, beq_self_eq_true, Bool.and_self, intI])
 | ((with_reducible refine hK _ ?_); clear hK K))
theorem oth_n (s : ShtS) (n : Nat) (N : Nat → NotS) (hs : s.Ok) (hn : n ≤ 9223372036854775807) (hN : ∀ i, i < n → (N i).Ok) (hf : fewB s n N = true) (hB : ntsB n N = false) : CallsP Tryz.prog 7 [(shP s), .one (.lst 7 n (notF N))] (.t (.one (.g (.bool (true))))) := by
  refine CallsP_of Tryz.func7 rfl (by rw [Tryz.ntmps7]; simp) ?_
  simp only [shP, Tryz.ntmps7, zM, PT.tv, argEnv, Nat.zero_add, Nat.reduceAdd]
  repeat' (first
 | ((with_reducible show AW _ _ _ _); first
 | (with_reducible first | refine aS (fun K hK => ?_) | refine aT ?_ | refine aC ?_)
 | ((with_reducible first | refine aP 0 [0,1] ?_ | refine aP 1 [1,2] ?_ | refine aP 2 [1,2,5] ?_ | refine aP 3 [5] ?_)))
 | (((with_reducible refine Need.mk ?_)); focus (first | exact True.intro | (intro _; exact True.intro)))
 | (with_reducible refine retK_n ?_)
 | ((with_reducible show condN _ _ _ _ _ _); first
 | ((with_reducible refine condN_t ?_ ?_) <;> (intro hc; (try simp only [zB, zC, reduceCtorEq] at hc); (try (exfalso; contradiction)))))
 | ((with_reducible show callN _ _ _ _ _ _ _ _ _ _); first
 | (refine callN_q (k := 10) fnok_10 (head_p) ?_ ?_)
 | (refine callN_q (k := 11) fnok_11 (few_p s n N hs hn hN) ?_ ?_))
 | ((with_reducible show callGN _ _ _ _ _ _ _ _ _ _); (refine callGN_q (k := 36) fnok_36 (fun hg => rnts_p n N hn hN) ?_ ?_))
 | ((fail_if_success (with_reducible show AW _ _ _ _)); simp (maxSteps := 2000000) only [go_sem, reduceIte, reduceCtorEq, xA, xL, xD, xE, xM, xS, xB, Tryz.f7, hf, beq_self_eq_true, Bool.and_self, intI, hB])
 | ((with_reducible refine hK _ ?_); clear hK K))
theorem oth_y (s : ShtS) (n : Nat) (N : Nat → NotS) (hs : s.Ok) (hn : n ≤ 9223372036854775807) (hN : ∀ i, i < n → (N i).Ok) (hf : fewB s n N = true) (hB : ntsB n N = true) : CallsP Tryz.prog 7 [(shP s), .one (.lst 7 n (notF N))] (.t (.one (.g (.bool (true))))) := by
  have g := oth_mk (s := s) hB
  have hnl := ntL_le N s.ch n
  have hn2 := (nts_n hB).1
  have hsl := StL_le n N s.ch
  refine CallsP_of Tryz.func7 rfl (by rw [Tryz.ntmps7]; simp) ?_
  simp only [shP, Tryz.ntmps7, zM, PT.tv, argEnv, Nat.zero_add, Nat.reduceAdd]
  repeat' (first
 | ((with_reducible show AW _ _ _ _); first
 | (with_reducible first | refine aS (fun K hK => ?_) | refine aI ?_ | refine aX ?_ | refine aT ?_ | refine aC ?_ | refine aB ?_)
 | (first
 | (with_reducible first | refine aP 0 [0,1] ?_ | refine aP 1 [1,2] ?_ | refine aP 2 [1,2,5] ?_ | refine aP 4 [1,2,5] ?_ | refine aP 5 [1,2,5,6] ?_ | refine aP 6 [1,2,5,6,35,36,37] ?_ | refine aP 7 [1,2,5,6,35,36,37] ?_ | refine aP 8 [1,2,5,6,8,35,36,37] ?_ | refine aP 9 [1,2,5,6,8,35,36,37] ?_ | refine aP 10 [1,2,5,6,35,36,37] ?_ | refine aP 11 [1,2,5,6] ?_ | refine AW_frz (c := Code.region 12 _ false) [1] ?_ (aP 12 [1,2,5,6,9,10] ?_) | refine aP 13 [1,2,5,6,9,10,11,12] ?_ | refine aP 14 [1,2,5,6,9,10,11,12,13,14] ?_ | refine aP 15 [1,2,5,6,9,10,11,12,13,14,15,16] ?_ | refine aP 16 [2,5,6,9,10,11,12,13,14,15,16,17,18,19] ?_ | refine aP 17 [5,9,10,11,12,13,14,15,16,17,18,19,20,21,22] ?_ | refine aP 18 [5,17,18,20,21] ?_ | refine aP 19 [5,17,18,20,21,23] ?_ | refine aP 20 [5,17,18,20,21,23] ?_)
 | ((with_reducible refine aR (c := Code.region 21 _ true) [5,17,18,20,21,23] ?_); (with_reducible refine aD ?_ ?_ ?_ ?_); (focus kernel_rfl); (focus kernel_rfl); (focus kernel_rfl))
 | (with_reducible refine aP 22 [5] ?_))
 | ((with_reducible show AW _ (Code.loop _) _ _); first
 | ((with_reducible refine aL (c := (Code.seq (Code.region 6 _ _) _)) (ι := Nat) [1,2,5,35,36] (fun i => [(6, .t (.one (.slc 1 0 (ntL N s.ch i).length 7))), (37, iA .i64 (i : Int))]) (fun i => [(1, rowN (ntL N s.ch i))]) (fun i => i ≤ n) (fun i => n - i) 0 ?lg6 ?l16 ?l26 ?li6 ?lr6); (case' lg6 => rintro i _); (case' li6 => try (omega)); (case' lr6 => rintro i hi KR hR6; have oL := ntL_le N s.ch i; simp only [keepE, hupd, hset, lk, if_true, if_false, xE, reduceIte, zN, hf, beq_self_eq_true, Bool.and_self, hB, g, ntL_0, rowN_pur, rowN_frz, rowN_put, rowN_len, maxLen, List.length_append, List.length_cons, List.length_nil, seqB_r, eqLI_r, StOp_len, stpF, stpG, opsF]))
 | ((with_reducible refine aL (c := (Code.seq (Code.seq (Code.region 19 _ _) _) _)) (ι := Nat) [17,18,20,21] (fun i => [(5, .t (.one (.iv (.g (.bool true))))), (23, iA .i64 (i : Int))]) (fun i => []) (fun i => i ≤ (StL n N s.ch).length) (fun i => (StL n N s.ch).length - i) 0 ?lg19 ?l119 ?l219 ?li19 ?lr19); (case' lg19 => rintro i _); (case' li19 => try (omega)); (case' lr19 => rintro i hi KR hR19; simp only [keepE, hupd, hset, lk, if_true, if_false, xE, reduceIte, zN, hf, beq_self_eq_true, Bool.and_self, hB, g, ntL_0, rowN_pur, rowN_frz, rowN_put, rowN_len, maxLen, List.length_append, List.length_cons, List.length_nil, seqB_r, eqLI_r, StOp_len, stpF, stpG, opsF]))))
 | ((first | (with_reducible refine And.intro ?_ ?_) | (with_reducible refine Need.mk ?_)); focus (first | exact rowN_iv _ | first | exact True.intro | omega | (intro _; exact True.intro)))
 | (with_reducible refine retK_n ?_)
 | ((with_reducible show condN _ _ _ _ _ _); first
 | ((with_reducible refine condN_t ?_ ?_) <;> (intro hc; (try simp only [zB, zC, reduceCtorEq] at hc); ((try (have hNi := (hN i (by omega)).n)); (try (have e0 : n = i := (by omega); subst e0))); (try (exfalso; contradiction)))))
 | ((with_reducible refine And.intro ?_ ?_); focus ((with_reducible show chkR _ _ _ = true); kernel_rfl))
 | ((with_reducible show callN _ _ _ _ _ _ _ _ _ _); first
 | (refine callN_q (k := 10) fnok_10 (head_p) ?_ ?_)
 | (refine callN_q (k := 11) fnok_11 (few_p s n N hs hn hN) ?_ ?_)
 | (refine callN_q (k := 35) fnok_35 (rcnc_p (N i) s.ch (hN i (by omega))) ?_ ?_)
 | (refine callN_q (k := 21) fnok_21 (mk_p s n N hs hn hN) ?_ ?_)
 | (refine callN_q (k := 21) fnok_21 (mk_q s (ntL N s.ch n).length (ntM N s.ch n) hs (by omega) (fun i _ => ntM_ok hN s.ch i) _ (rowN_eqv _)) ?_ ?_)
 | (refine callN_q (k := 25) fnok_25 (nx_p s n N hs hn hN) ?_ ?_)
 | (refine callN_q (k := 25) fnok_25 (nx_q s (ntL N s.ch n).length (ntM N s.ch n) hs (by omega) (fun i _ => ntM_ok hN s.ch i) _ (rowN_eqv _)) ?_ ?_)
 | (refine callN_q (k := 15) fnok_15 (st_p n N s.ch hn hN) ?_ ?_)
 | (refine callN_q (k := 15) fnok_15 (st_q (ntL N s.ch n).length (ntM N s.ch n) s.ch (by omega) (fun i _ => ntM_ok hN s.ch i) _ (rowN_eqv _)) ?_ ?_))
 | ((with_reducible show callGN _ _ _ _ _ _ _ _ _ _); first
 | (refine callGN_q (k := 36) fnok_36 (fun hg => rnts_p n N hn hN) ?_ ?_)
 | (refine callGN_q (k := 14) fnok_14 (fun hg => rsame_p (MkS s n N) (MkS s n N) (MkS_ok s n N) (MkS_ok s n N)) ?_ ?_))
 | ((with_reducible show callDGN _ _ _ _ _ _ _ _ _ _ _ _ _); first
 | (refine callDGN_q (k := 17) fnok_17 (fun hg => ints18_p ((StL n N s.ch).getD i stp0).q ((StL n N s.ch).getD i stp0).q ((StL n N s.ch).getD i stp0).a ((StL n N s.ch).getD i stp0).a (StL_q hN s.ch i) (StL_q hN s.ch i)) ?_ ?_)
 | (refine callDGN_q (k := 18) fnok_18 (fun hg => rsm_p ((OpL n N s.ch).getD i part0).k ((OpL n N s.ch).getD i part0).o (OpL_ok hN s.ch i).k (OpL_ok hN s.ch i).o) ?_ ?_))
 | ((with_reducible refine hR6 _ (i + 1) ?_); (try clear hR6 KR))
 | ((with_reducible refine hR19 _ (i + 1) ?_); (try clear hR19 KR))
 | ((with_reducible refine Told.mk ?_); simp only [go_sem, reduceIte, reduceCtorEq, xA, xL, xD, xE, xM, xS, xB, hf, beq_self_eq_true, Bool.and_self, intI, hB, g, ntL_0, rowN_pur, rowN_frz, rowN_put, rowN_len, maxLen, List.length_append, List.length_cons, List.length_nil, seqB_r, eqLI_r, StOp_len, stpF, stpG, opsF] <;> ((((try simp (disch := omega) only [seaWrap, Int.natCast_add, Int.cast_ofNat_Int, and_true, true_and, and_self]); (repeat' (first | omega | rfl | (with_reducible refine And.intro ?_ ?_) | ((first | rw [ntL_t (by assumption)] | rw [ntL_f (by assumption)])) | ((exact wkC_eq rfl (rowN_iv _))) | ((simp only [List.length_append, List.length_cons, List.length_nil, Nat.zero_add]; done)))); done))))
 | ((fail_if_success (with_reducible show AW _ _ _ _)); simp (maxSteps := 2000000) only [go_sem, reduceIte, reduceCtorEq, xA, xL, xD, xE, xM, xS, xB, Tryz.f7, hf, beq_self_eq_true, Bool.and_self, intI, hB, g, ntL_0, rowN_pur, rowN_frz, rowN_put, rowN_len, maxLen, List.length_append, List.length_cons, List.length_nil, seqB_r, eqLI_r, StOp_len, stpF, stpG, opsF])
 | ((with_reducible refine hK _ ?_); clear hK K)
 | (with_reducible apply_assumption -exfalso only [*]))
theorem oth_law (s : ShtS) (n : Nat) (N : Nat → NotS) (hs : s.Ok) (hn : n ≤ 9223372036854775807) (hN : ∀ i, i < n → (N i).Ok) : CallsP Tryz.prog 7 [(shP s), .one (.lst 7 n (notF N))] (.t (.one (.g (.bool (true))))) := by
  cases hf : fewB s n N with
  | false => exact oth_f s n N hs hn hN hf
  | true =>
    cases hB : ntsB n N with
    | false => exact oth_n s n N hs hn hN hf hB
    | true => exact oth_y s n N hs hn hN hf hB
end Go.Proofs.YtdhgiklbkmkblaaGreat
