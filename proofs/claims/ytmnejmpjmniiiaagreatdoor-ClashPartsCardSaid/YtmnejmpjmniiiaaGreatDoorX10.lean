/- Part 10 of 15: contracts of functions and plain laws for the root text. No condition. -/
import Derived.Test.YtmnejmpjmniiiaaGreatDoorX01
import Derived.Test.YtmnejmpjmniiiaaGreatDoorX02
import Derived.Test.YtmnejmpjmniiiaaGreatDoorX03
import Derived.Test.YtmnejmpjmniiiaaGreatDoorX04
import Derived.Test.YtmnejmpjmniiiaaGreatDoorX05
import Derived.Test.YtmnejmpjmniiiaaGreatDoorX06
import Derived.Test.YtmnejmpjmniiiaaGreatDoorX07
import Derived.Test.YtmnejmpjmniiiaaGreatDoorX08
import Derived.Test.YtmnejmpjmniiiaaGreatDoorX09
set_option linter.unusedVariables false
set_option linter.unusedSimpArgs false
set_option maxRecDepth 100000
set_option maxHeartbeats 4000000
namespace Go.Proofs.YtmnejmpjmniiiaaGreatDoor
open Go.RowKit Go.Sea
open Nat renaming reduceAdd → xA, reduceLT → xL, reduceLeDiff → xD, reduceEqDiff → xE, reduceMul → xM, reduceSub → xS, reduceBEq → xB
theorem ar_23 : arD Tryz.prog 23 = none := by kernel_rfl
theorem fnok_62 : fnOk Tryz.prog 62 = true := by kernel_rfl
theorem fnok_84 : fnOk Tryz.prog 84 = true := by kernel_rfl
theorem fnok_85 : fnOk Tryz.prog 85 = true := by kernel_rfl
theorem le_23 : lenD Tryz.prog 23 = some true := by kernel_rfl
theorem mp_102 : mpD Tryz.prog 102 = some 4 := by kernel_rfl
theorem of_48_0 : offOf Tryz.prog 48 0 = some 0 := by kernel_rfl
theorem of_48_1 : offOf Tryz.prog 48 1 = some 1 := by kernel_rfl
theorem sl_23 : slD Tryz.prog 23 = some (2, 32, 48) := by kernel_rfl
theorem ty_48 : tyD Tryz.prog 48 = some (true, 2) := by kernel_rfl
theorem zc_48 : zeroC Tryz.prog 48 = some [.iv (.g (.int .i64 0)), .iv (.g (.slice none 0 0))] := by kernel_rfl
theorem zp_4 : zPT Tryz.prog 4 = some (.one (.g (.bool false))) := by kernel_rfl
attribute [go_sem] ar_23 fnok_62 fnok_84 fnok_85 le_23 mp_102 of_48_0 of_48_1 sl_23 ty_48 zc_48 zp_4
theorem fnum_p (x : Int) : CallsP Tryz.prog 84 [.one (.g (.int .i64 x))] (.t (.one (.g (.bool (numB x))))) := by
  refine CallsP_of Tryz.func84 rfl (by rw [Tryz.ntmps84]; simp) ?_
  simp only [Tryz.ntmps84, zM, PT.tv, argEnv, Nat.zero_add, Nat.reduceAdd]
  repeat' (first
 | ((with_reducible show AW _ _ _ _); first
 | (with_reducible first | refine aS (fun K hK => ?_) | refine aI ?_ | refine aX ?_ | refine aT ?_ | refine aC ?_ | refine aB ?_)
 | (first
 | (with_reducible first | refine aP 0 [0] ?_ | refine aP 1 [0] ?_)))
 | ((first | (with_reducible refine And.intro ?_ ?_) | (with_reducible refine Need.mk ?_)); focus (first | exact True.intro | (with_reducible assumption) | omega | (refine ⟨?_, ?_⟩ <;> omega) | (intro _; first | exact True.intro | (with_reducible assumption) | omega) | (intros; (repeat' (first | exact True.intro | omega | (with_reducible assumption) | (with_reducible refine And.intro ?_ ?_))); done) | (simp (disch := omega) only [Bool.and_eq_true, Bool.or_eq_true, decide_eq_true_eq, bne_iff_ne, ne_eq] at *; first | done | omega | (intros; omega)) | (simp; done) | (simp; omega) | (simp +contextual; done) | (intro h; rw [h]; rfl) | (intro hq; have hq2 := hq; simp only [Bool.and_eq_true, Bool.or_eq_true, Bool.not_eq_true', Bool.not_not, Bool.not_eq_false', decide_eq_true_eq, decide_eq_false_iff_not] at hq2; (repeat' (first | exact hq | (with_reducible refine And.intro ?_ ?_) | omega | (simp_all; done))); done) | (intros; simp_all; done)))
 | (with_reducible refine retK_n ?_)
 | (with_reducible refine retK_n' ?_)
 | (with_reducible refine retH_n rfl rfl rfl ?_)
 | (with_reducible refine retH_n' rfl rfl rfl ?_)
 | ((with_reducible show condN _ _ _ _ _ _); first
 | ((with_reducible refine condN_t ?_ ?_) <;> (intro hc; (try simp only [zB, zC, reduceCtorEq] at hc); (try (exfalso; first | contradiction | omega)))))
 | ((fail_if_success (with_reducible show AW _ _ _ _)); simp (maxSteps := 2000000) only [go_sem, reduceIte, reduceCtorEq, xA, xL, xD, xE, xM, xS, xB, Tryz.f84])
 | ((with_reducible refine hK _ ?_); clear hK K))
  all_goals (first | (unfold numB; (try refine Bool.eq_iff_iff.2 ?_); (simp only [Bool.and_eq_true, Bool.or_eq_true, Bool.not_eq_true', decide_eq_true_eq, decide_eq_false_iff_not, bne_iff_ne, beq_iff_eq, ne_eq, ge_iff_le, gt_iff_lt, cond_eq_ite, iff_self, eq_self]; first | done | omega)) | skip)
theorem fris_p (q : Nat) (a : Nat → Int) (hq : q ≤ 9223372036854775807) : CallsP Tryz.prog 85 [.one (.lst 1 q (intI a))] (.t (.one (.g (.bool (risB q a))))) := by
  have hsx : True := trivial
  refine CallsP_of Tryz.func85 rfl (by rw [Tryz.ntmps85]; simp) ?_
  simp only [Tryz.ntmps85, zM, PT.tv, argEnv, Nat.zero_add, Nat.reduceAdd]
  repeat' (first
 | ((with_reducible show AW _ _ _ _); first
 | (with_reducible first | refine aS (fun K hK => ?_) | refine aI ?_ | refine aX ?_ | refine aT ?_ | refine aC ?_ | refine aB ?_)
 | (first
 | (with_reducible first | refine aP 0 [0] ?_ | refine aP 1 [0] ?_ | refine aP 2 [0,3] ?_ | refine aP 3 [0,3] ?_)
 | ((with_reducible refine aR (c := Code.region 4 _ true) [0,3] ?_); (with_reducible refine aD ?_ ?_ ?_ ?_); (focus kernel_rfl); (focus kernel_rfl); (focus kernel_rfl))
 | (with_reducible first | refine aP 5 [] ?_ | refine aP 6 [] ?_))
 | ((with_reducible show AW _ (Code.loop _) _ _); first
 | ((with_reducible refine aL (c := (Code.seq (Code.seq (Code.region 2 _ _) _) _)) (ι := Nat) [0] (fun j => [(3, iA .i64 ((j : Int) + 1))]) (fun j => []) (fun j => (j + 1 ≤ q ∨ j = 0) ∧ (∀ j', j' < j → a j' < a (j' + 1))) (fun j => q - j) 0 ?lg2 ?l12 ?l22 ?li2 ?lr2); (case' lg2 => rintro j _); (case' li2 => try (exact ⟨Or.inr rfl, fun _ h => absurd h (Nat.not_lt_zero _)⟩)); (case' lr2 => rintro j ⟨hj, haj⟩ KR hR2; simp only [keepE, hupd, hset, lk, if_true, if_false, xE, reduceIte, zN, hsx]))))
 | ((first | (with_reducible refine And.intro ?_ ?_) | (with_reducible refine Need.mk ?_)); focus (first | exact True.intro | (with_reducible assumption) | omega | (refine ⟨?_, ?_⟩ <;> omega) | (intro _; first | exact True.intro | (with_reducible assumption) | omega) | (intros; (repeat' (first | exact True.intro | omega | (with_reducible assumption) | (with_reducible refine And.intro ?_ ?_))); done) | (simp (disch := omega) only [Bool.and_eq_true, Bool.or_eq_true, decide_eq_true_eq, bne_iff_ne, ne_eq] at *; first | done | omega | (intros; omega)) | (simp; done) | (simp; omega) | (simp +contextual; done) | (intro h; rw [h]; rfl) | (intro hq; have hq2 := hq; simp only [Bool.and_eq_true, Bool.or_eq_true, Bool.not_eq_true', Bool.not_not, Bool.not_eq_false', decide_eq_true_eq, decide_eq_false_iff_not] at hq2; (repeat' (first | exact hq | (with_reducible refine And.intro ?_ ?_) | omega | (simp_all; done))); done) | (intros; simp_all; done)))
 | (with_reducible refine retK_n ?_)
 | (with_reducible refine retK_n' ?_)
 | (with_reducible refine retH_n rfl rfl rfl ?_)
 | (with_reducible refine retH_n' rfl rfl rfl ?_)
 | ((with_reducible show condN _ _ _ _ _ _); first
 | ((with_reducible refine condN_t ?_ ?_) <;> (intro hc; (try simp only [zB, zC, reduceCtorEq] at hc); ((try (have hsx : (((j : Int) + 1 - 1).toNat) = j := by omega))); (try (exfalso; first | contradiction | omega)))))
 | ((with_reducible refine And.intro ?_ ?_); focus ((with_reducible show chkR _ _ _ = true); kernel_rfl))
 | ((with_reducible refine hR2 _ (j + 1) ?_); (try clear hR2 KR))
 | ((with_reducible refine Told.mk ?_); simp only [go_sem, reduceIte, reduceCtorEq, xA, xL, xD, xE, xM, xS, xB, intI, hsx] <;> (first | exact True.intro | (((try simp (disch := omega) only [seaWrap, Int.natCast_add, Int.cast_ofNat_Int, and_true, true_and, and_self]); (repeat' (first | exact True.intro | omega | rfl | (with_reducible assumption) | (with_reducible refine And.intro ?_ ?_) | (exact all_succ (by assumption) (by assumption)) | ((exact rfl)) | ((exact Or.inl (by omega))))); done)) | (refine Stuck.out ?_)))
 | ((fail_if_success (with_reducible show AW _ _ _ _)); simp (maxSteps := 2000000) only [go_sem, reduceIte, reduceCtorEq, xA, xL, xD, xE, xM, xS, xB, Tryz.f85, intI, hsx])
 | ((fail_if_success (with_reducible show AW _ _ _ _)); simp (disch := omega) only [seaWrap, seaDiv, seaMod])
 | ((with_reducible refine hK _ ?_); clear hK K)
 | (with_reducible apply_assumption -exfalso only [*]))
  all_goals first | exact ris_f (by omega) (by omega) | exact ris_t (by omega) haj | skip
theorem st_f1 {S : Nat → StepS} {i : Nat} (h : numB (S i).nu = false) : ¬ stO S i := fun g => by rw [g.1] at h; cases h
theorem st_f2 {S : Nat → StepS} {i : Nat} (h : (S i).nu ≤ lsN S i) : ¬ stO S i := fun g => by have := g.2.1; omega
theorem st_f3 {S : Nat → StepS} {i : Nat} (h : risB (S i).q (S i).a = false) : ¬ stO S i := fun g => by rw [g.2.2.1] at h; cases h
theorem st_f4 {S : Nat → StepS} {i j : Nat} (hj : (j : Int) < (S i).q) (h : (nuM S i).contains ((S i).a j) = false) : ¬ stO S i := fun g => by have e := g.2.2.2; rw [all_f hj h] at e; cases e
theorem st_cs (S : Nat → StepS) (i : Nat) : (numB (S i).nu = false ∧ True ∧ True) ∨ (numB (S i).nu = true ∧ decide ((S i).nu ≤ lsN S i) = true ∧ True) ∨ (numB (S i).nu = true ∧ decide ((S i).nu ≤ lsN S i) = false ∧ risB (S i).q (S i).a = false) ∨ (numB (S i).nu = true ∧ decide ((S i).nu ≤ lsN S i) = false ∧ risB (S i).q (S i).a = true) := by
  cases numB (S i).nu <;> cases decide ((S i).nu ≤ lsN S i) <;> cases risB (S i).q (S i).a <;> simp
theorem st_t {S : Nat → StepS} {i j : Nat} (h1 : numB (S i).nu = true) (h2 : lsN S i < (S i).nu) (h3 : risB (S i).q (S i).a = true) (hj : ((S i).q : Int) ≤ j) (h4 : ∀ k, k < j → (nuM S i).contains ((S i).a k) = true) : stO S i := ⟨h1, h2, h3, all_t hj h4⟩
theorem fval_p (S : Nat → StepS) (m : Nat) (hm : m ≤ 9223372036854775807) (hq : ∀ i, i < m → (S i).q ≤ 9223372036854775807) : CallsP Tryz.prog 60 [.one (.lst 2 m (stF S))] (.t (.one (.g (.bool (vsB S m))))) := by
  have hfk : True := trivial
  have hb1 : True := trivial
  have hb2 : True := trivial
  have hb3 : True := trivial
  have mk0 : True := trivial
  have mk1 : True := trivial
  refine CallsP_of Tryz.func60 rfl (by rw [Tryz.ntmps60]; simp) ?_
  simp only [Tryz.ntmps60, zM, PT.tv, argEnv, Nat.zero_add, Nat.reduceAdd]
  repeat' (first
 | ((with_reducible show callGN _ _ _ _ _ _ _ _ _ _); first
 | ((refine callGN_sq ?_ ?_) <;> (intro hc; (try rw [hc]); (try simp only [zB, zC, reduceCtorEq] at hc); (try (exfalso; first | contradiction | omega))))
 | (refine callGN_q (k := 85) fnok_85 (fun hg => fris_p (S i).q (S i).a (hq i (by omega))) ?_ ?_))
 | (refine callGK_u0 ?_)
 | ((with_reducible show AW _ _ _ _); first
 | (with_reducible first | refine aS (fun K hK => ?_) | refine aI ?_ | refine aX ?_ | refine aT ?_ | refine aC ?_ | refine aB ?_)
 | (first
 | (with_reducible first | refine aP (ops := #[⟨some 2, _, _, _, _, _⟩]) 0 [0] ?_ | refine aP (ops := #[⟨some 4, _, _, _, _, _⟩]) 0 [0,1] ?_ | refine aP (ops := #[⟨some 7, _, _, _, _, _⟩, _]) 1 [0] ?_ | refine aP (ops := #[⟨some 7, _, _, _, _, _⟩, _, _]) 1 [0,1] ?_ | refine aP (ops := #[⟨some 4, _, _, _, _, _⟩]) 2 [0,3] ?_ | refine aP (ops := #[⟨some 10, _, _, _, _, _⟩]) 2 [0,7,8,9] ?_ | refine aP (ops := #[⟨some 8, _, _, _, _, _⟩, _, _]) 3 [0,3,4] ?_ | refine aP (ops := #[⟨some 11, _, _, _, _, _⟩, _, _]) 3 [0,7,8,9] ?_ | refine aP (ops := #[⟨some 11, _, _, _, _, _⟩]) 4 [0,3,4,8,9,10] ?_ | refine aP (ops := #[⟨some 13, _, _, _, _, _⟩, _, _, _]) 4 [0,6,7,8,9] ?_ | refine aP (ops := #[⟨some 12, _, _, _, _, _⟩, _, _, _]) 5 [0,3,4,8,9,10] ?_ | refine aP (ops := #[⟨some 4, _, _, _, _, _⟩]) 5 [] ?_ | refine aP (ops := #[⟨some 14, _, _, _, _, _⟩, _, _, _, _, _, _, _, _, _, _, _, _, _, _, _, _, _, _, _, _, _, _]) 6 [0,3,4,6,8,9,10] ?_ | refine aP (ops := #[⟨some 17, _, _, _, _, _⟩, _]) 6 [0,7,8,9] ?_ | refine aP (ops := #[⟨some 2, _, _, _, _, _⟩]) 7 [] ?_ | refine aP (ops := #[⟨some 4, _, _, _, _, _⟩]) 7 [] ?_ | refine aP 8 [0,3,6,8,9,10] ?_ | refine aP 9 [0,3,4,8,9,10] ?_ | refine aP 10 [0,3,4,8,9,10] ?_ | refine aP 11 [0] ?_))
 | ((with_reducible show AW _ (Code.loop _) _ _); first
 | ((with_reducible refine aL (c := (Code.seq (Code.region 4 _ _) _)) (ι := Nat) [0,3,8,9] (fun i => [(4, iA .i64 (lsN S i)), (10, iA .i64 (i : Int))]) (fun i => [(0, [.mi none i (setO (nuM S i))])]) (fun i => i ≤ m ∧ (∀ i', i' < i → stO S i')) (fun i => m - i) 0 ?lg4 ?l14 ?l24 ?li4 ?lr4); (case' lg4 => rintro i _); (case' li4 => try (exact ⟨Nat.zero_le _, fun i hi => absurd hi (Nat.not_lt_zero _)⟩)); (case' lr4 => rintro i ⟨hi, hai⟩ KR hR4; simp only [keepE, hupd, hset, lk, if_true, if_false, xE, reduceIte, zN, stF0, stF1, hb1, hb2, hb3, hfk, setO_put, setO_nil, lsN_s, lsN_0, nuM_0]))
 | ((with_reducible refine aL (c := (Code.seq (Code.region 2 _ _) _)) (ι := Nat) [0,7,8] (fun j => [(9, iA .i64 (j : Int))]) (fun j => []) (fun j => j ≤ (S i).q ∧ (∀ j', j' < j → (nuM S i).contains ((S i).a j') = true)) (fun j => (S i).q - j) 0 ?lg2 ?l12 ?l22 ?li2 ?lr2); (case' lg2 => rintro j _); (case' li2 => try (exact ⟨Nat.zero_le _, fun i hi => absurd hi (Nat.not_lt_zero _)⟩)); (case' lr2 => rintro j ⟨hj, haj⟩ KR hR2; simp only [keepE, hupd, hset, lk, if_true, if_false, xE, reduceIte, zN, stF0, stF1, hb1, hb2, hb3, hfk, setO_put, setO_nil, lsN_s, lsN_0, nuM_0]))))
 | ((first | (with_reducible refine And.intro ?_ ?_) | (with_reducible refine Need.mk ?_)); focus (first | exact True.intro | (with_reducible assumption) | omega | (refine ⟨?_, ?_⟩ <;> omega) | (intro _; first | exact True.intro | (with_reducible assumption) | omega) | (intros; (repeat' (first | exact True.intro | omega | (with_reducible assumption) | (with_reducible refine And.intro ?_ ?_))); done) | (simp (disch := omega) only [Bool.and_eq_true, Bool.or_eq_true, decide_eq_true_eq, bne_iff_ne, ne_eq] at *; first | done | omega | (intros; omega)) | (simp; done) | (simp; omega) | (simp +contextual; done) | (intro h; rw [h]; rfl) | (intro hq; have hq2 := hq; simp only [Bool.and_eq_true, Bool.or_eq_true, Bool.not_eq_true', Bool.not_not, Bool.not_eq_false', decide_eq_true_eq, decide_eq_false_iff_not] at hq2; (repeat' (first | exact hq | (with_reducible refine And.intro ?_ ?_) | omega | (simp_all; done))); done) | (intros; simp_all; done)))
 | (with_reducible refine retK_n ?_)
 | (with_reducible refine retK_n' ?_)
 | (with_reducible refine retH_n rfl rfl rfl ?_)
 | (with_reducible refine retH_n' rfl rfl rfl ?_)
 | ((with_reducible show condN _ _ _ _ _ _); first
 | ((with_reducible refine condN_t ?_ ?_) <;> (intro hc; (try simp only [zB, zC, reduceCtorEq] at hc); ((try (clear mk1; have hq2 := hq i (by omega); clear hb1 hb2 hb3; rcases st_cs S i with ⟨hb1, hb2, hb3⟩ | ⟨hb1, hb2, hb3⟩ | ⟨hb1, hb2, hb3⟩ | ⟨hb1, hb2, hb3⟩)); (try (clear mk0; clear hfk; cases hcn : (nuM S i).contains ((S i).a j); all_goals (first | (have hfk := setO_t hcn) | (have hfk := setO_f hcn)))); (try (have e0 : ¬ ((i : Int) < m) := (by omega); clear mk0))); (try (exfalso; first | contradiction | omega)))))
 | ((with_reducible show callN _ _ _ _ _ _ _ _ _ _); first
 | (refine callN_q (k := 84) fnok_84 (fnum_p (S i).nu) ?_ ?_)
 | (refine callN_q (k := 85) fnok_85 (fris_p (S i).q (S i).a (hq i (by omega))) ?_ ?_)
 | ((refine callN_i (k := 62) Tryz.func62 rfl fnok_62 (by rw [Tryz.ntmps62]; simp) ?_ ?_ (fun K hK => ?_)); (focus (first | exact True.intro | (with_reducible assumption) | omega | (refine ⟨?_, ?_⟩ <;> omega) | (intro _; first | exact True.intro | (with_reducible assumption) | omega) | (intros; (repeat' (first | exact True.intro | omega | (with_reducible assumption) | (with_reducible refine And.intro ?_ ?_))); done) | (simp (disch := omega) only [Bool.and_eq_true, Bool.or_eq_true, decide_eq_true_eq, bne_iff_ne, ne_eq] at *; first | done | omega | (intros; omega)) | (simp; done) | (simp; omega) | (simp +contextual; done) | (intro h; rw [h]; rfl) | (intro hq; have hq2 := hq; simp only [Bool.and_eq_true, Bool.or_eq_true, Bool.not_eq_true', Bool.not_not, Bool.not_eq_false', decide_eq_true_eq, decide_eq_false_iff_not] at hq2; (repeat' (first | exact hq | (with_reducible refine And.intro ?_ ?_) | omega | (simp_all; done))); done) | (intros; simp_all; done))); (focus (first | (simp [lsF]; done) | assumption | exact ⟨Nat.ne_of_lt (Nat.lt_succ_self _), by assumption⟩)); simp only [Tryz.ntmps62, List.map_cons, List.map_nil, List.nil_append, List.cons_append, List.append_nil, LV.tv, argEnv, Nat.zero_add, Nat.reduceAdd]))
 | ((with_reducible refine hR4 _ (i + 1) ?_); (try clear hR4 KR))
 | ((with_reducible refine hR2 _ (j + 1) ?_); (try clear hR2 KR))
 | ((with_reducible refine Told.mk ?_); simp only [go_sem, reduceIte, reduceCtorEq, xA, xL, xD, xE, xM, xS, xB, stF0, stF1, intI, hb1, hb2, hb3, hfk, setO_put, setO_nil, lsN_s, lsN_0, nuM_0] <;> (first | exact True.intro | (((try simp (disch := omega) only [seaWrap, Int.natCast_add, Int.cast_ofNat_Int, and_true, true_and, and_self]); (repeat' (first | exact True.intro | omega | rfl | (with_reducible assumption) | (with_reducible refine And.intro ?_ ?_) | (exact all_succ (by assumption) (by assumption)) | ((exact rfl)) | ((exact Or.inr fun k => by rw [nuM_0]; exact oeqv_rf2 _)) | ((exact Or.inr ⟨setO_len (nuM_new hai (by have := of_decide_eq_false hb2; omega)), fun k => by rw [nuM_s]; exact oeqv_rf2 _⟩)) | ((exact all_succ (by assumption) (st_t (by assumption) (by have := of_decide_eq_false hb2; omega) (by assumption) (by assumption) (by assumption)))))); done)) | (((try simp (disch := omega) only [seaWrap, Int.natCast_add, Int.cast_ofNat_Int, and_true, true_and, and_self]); (repeat' (first | exact True.intro | omega | rfl | (with_reducible assumption) | (with_reducible refine And.intro ?_ ?_) | (exact all_succ (by assumption) (by assumption)) | ((exact rfl)) | ((exact all_succ (by assumption) (by assumption))))); done)) | (refine Stuck.out ?_)))
 | ((fail_if_success (with_reducible show AW _ _ _ _)); simp (maxSteps := 2000000) only [go_sem, reduceIte, reduceCtorEq, xA, xL, xD, xE, xM, xS, xB, Tryz.f60, Tryz.f62, stF0, stF1, intI, hb1, hb2, hb3, hfk, setO_put, setO_nil, lsN_s, lsN_0, nuM_0])
 | ((fail_if_success (with_reducible show AW _ _ _ _)); simp (disch := omega) only [seaWrap, seaDiv, seaMod])
 | ((with_reducible refine hK _ ?_); clear hK K)
 | (with_reducible apply_assumption -exfalso only [*]))
  all_goals first | exact vs_f (by assumption) (by first | exact st_f1 (by assumption) | exact st_f2 (of_decide_eq_true (by assumption)) | exact st_f3 (by assumption) | exact st_f4 (by assumption) (by assumption)) | exact vs_t (by omega) hai | skip
end Go.Proofs.YtmnejmpjmniiiaaGreatDoor
set_option maxRecDepth 100000
set_option maxHeartbeats 4000000
namespace Go.Proofs.YtmnejmpjmniiiaaGreatDoor
open Go.RowKit Go.Sea
open Nat renaming reduceAdd → xA, reduceLT → xL, reduceLeDiff → xD, reduceEqDiff → xE, reduceMul → xM, reduceSub → xS, reduceBEq → xB
theorem fnok_123 : fnOk Tryz.prog 123 = true := by kernel_rfl
theorem fnok_124 : fnOk Tryz.prog 124 = true := by kernel_rfl
theorem fnok_125 : fnOk Tryz.prog 125 = true := by kernel_rfl
theorem fnok_148 : fnOk Tryz.prog 148 = true := by kernel_rfl
theorem fnok_60 : fnOk Tryz.prog 60 = true := by kernel_rfl
theorem ty_102 : tyD Tryz.prog 102 = some (false, 1) := by kernel_rfl
theorem ty_23 : tyD Tryz.prog 23 = some (false, 1) := by kernel_rfl
attribute [go_sem] fnok_123 fnok_124 fnok_125 fnok_60 ty_102 ty_23
theorem fdn_z (k : Nat) (d : Nat → Int) (hk : k = 0) : CallsP Tryz.prog 123 [.one (.lst 1 k (intI d))] (.t (.one (.g (.bool (true))))) := by
  refine CallsP_of Tryz.func123 rfl (by rw [Tryz.ntmps123]; simp) ?_
  simp only [Tryz.ntmps123, zM, PT.tv, argEnv, Nat.zero_add, Nat.reduceAdd]
  repeat' (first
 | ((with_reducible show AW _ _ _ _); first
 | (with_reducible first | refine aS (fun K hK => ?_) | refine aI ?_ | refine aX ?_ | refine aT ?_ | refine aC ?_ | refine aB ?_)
 | (first
 | (with_reducible first | refine aP 0 [0] ?_ | refine aP 1 [0] ?_)))
 | ((first | (with_reducible refine And.intro ?_ ?_) | (with_reducible refine Need.mk ?_)); focus (first | exact True.intro | (with_reducible assumption) | omega | (refine ⟨?_, ?_⟩ <;> omega) | (intro _; first | exact True.intro | (with_reducible assumption) | omega) | (intros; (repeat' (first | exact True.intro | omega | (with_reducible assumption) | (with_reducible refine And.intro ?_ ?_))); done) | (simp (disch := omega) only [Bool.and_eq_true, Bool.or_eq_true, decide_eq_true_eq, bne_iff_ne, ne_eq] at *; first | done | omega | (intros; omega)) | (simp; done) | (simp; omega) | (simp +contextual; done) | (intro h; rw [h]; rfl) | (intro hq; have hq2 := hq; simp only [Bool.and_eq_true, Bool.or_eq_true, Bool.not_eq_true', Bool.not_not, Bool.not_eq_false', decide_eq_true_eq, decide_eq_false_iff_not] at hq2; (repeat' (first | exact hq | (with_reducible refine And.intro ?_ ?_) | omega | (simp_all; done))); done) | (intros; simp_all; done)))
 | (with_reducible refine retK_n ?_)
 | (with_reducible refine retK_n' ?_)
 | (with_reducible refine retH_n rfl rfl rfl ?_)
 | (with_reducible refine retH_n' rfl rfl rfl ?_)
 | ((with_reducible show condN _ _ _ _ _ _); first
 | ((with_reducible refine condN_t ?_ ?_) <;> (intro hc; (try simp only [zB, zC, reduceCtorEq] at hc); (try (exfalso; first | contradiction | omega)))))
 | ((with_reducible show callGN _ _ _ _ _ _ _ _ _ _); first
 | (refine callGN_q (k := 85) fnok_85 (fun hg => fris_p k d (by omega)) ?_ ?_))
 | ((fail_if_success (with_reducible show AW _ _ _ _)); simp (maxSteps := 2000000) only [go_sem, reduceIte, reduceCtorEq, xA, xL, xD, xE, xM, xS, xB, Tryz.f123, intI])
 | ((fail_if_success (with_reducible show AW _ _ _ _)); simp (disch := omega) only [seaWrap, seaDiv, seaMod])
 | ((with_reducible refine hK _ ?_); clear hK K))
  all_goals (subst hk; simp [risB]; done)
theorem fdn_0 : CallsP Tryz.prog 123 [.one (.g (.slice none 0 0))] (.t (.one (.g (.bool (true))))) := (fdn_z 0 (fun _ => 0) rfl).eqv ⟨by unfold PT.eqv IV.eqv; trivial, trivial⟩ (by first | rfl | exact IV.eqv_refl _ | trivial)
theorem pfld_p (o : OpS) (ho : o.f.Ok) : CallsP Tryz.prog 103 [.agg [.g (.int .i64 (o.kd)), .g (.int .i64 (o.id)), .g (.int .i64 (o.f.id)), .g (.int .i64 (o.f.kd)), .g (.int .i64 (o.f.x)), .g (.int .i64 (o.f.y)), .g (.int .i64 (o.f.r)), .lst 2 o.f.n (ptI o.f.P), .g (.int .i64 (o.f.d)), .g (.int .i64 (o.f.s)), .lst 6 o.f.m (ptI o.f.S), .g (.int .i64 (o.x)), .g (.int .i64 (o.y)), .g (.int .i64 (o.r)), .g (.int .i64 (o.d)), .g (.int .i64 (o.s))]] (.t (.one (.g (.bool (fldB o))))) := by
  refine CallsP_of Tryz.func103 rfl (by rw [Tryz.ntmps103]; simp) ?_
  simp only [Tryz.ntmps103, zM, PT.tv, argEnv, Nat.zero_add, Nat.reduceAdd]
  repeat' (first
 | ((with_reducible show AW _ _ _ _); first
 | (with_reducible first | refine aS (fun K hK => ?_) | refine aI ?_ | refine aX ?_ | refine aT ?_ | refine aC ?_ | refine aB ?_)
 | (first
 | (with_reducible first | refine aP 0 [0] ?_ | refine aP 1 [1] ?_)))
 | ((first | (with_reducible refine And.intro ?_ ?_) | (with_reducible refine Need.mk ?_)); focus (first | exact True.intro | (with_reducible assumption) | omega | (refine ⟨?_, ?_⟩ <;> omega) | (intro _; first | exact True.intro | (with_reducible assumption) | omega) | (intros; (repeat' (first | exact True.intro | omega | (with_reducible assumption) | (with_reducible refine And.intro ?_ ?_))); done) | (simp (disch := omega) only [Bool.and_eq_true, Bool.or_eq_true, decide_eq_true_eq, bne_iff_ne, ne_eq] at *; first | done | omega | (intros; omega)) | (simp; done) | (simp; omega) | (simp +contextual; done) | (intro h; rw [h]; rfl) | (intro hq; have hq2 := hq; simp only [Bool.and_eq_true, Bool.or_eq_true, Bool.not_eq_true', Bool.not_not, Bool.not_eq_false', decide_eq_true_eq, decide_eq_false_iff_not] at hq2; (repeat' (first | exact hq | (with_reducible refine And.intro ?_ ?_) | omega | (simp_all; done))); done) | (intros; simp_all; done)))
 | (with_reducible refine retK_n ?_)
 | (with_reducible refine retK_n' ?_)
 | (with_reducible refine retH_n rfl rfl rfl ?_)
 | (with_reducible refine retH_n' rfl rfl rfl ?_)
 | ((with_reducible show condN _ _ _ _ _ _); first
 | ((with_reducible refine condN_t ?_ ?_) <;> (intro hc; (try simp only [zB, zC, reduceCtorEq] at hc); (try (exfalso; first | contradiction | omega)))))
 | ((fail_if_success (with_reducible show AW _ _ _ _)); simp (maxSteps := 2000000) only [go_sem, reduceIte, reduceCtorEq, xA, xL, xD, xE, xM, xS, xB, Tryz.f103])
 | ((with_reducible refine hK _ ?_); clear hK K))
  all_goals (first | (unfold fldB; (try refine Bool.eq_iff_iff.2 ?_); (simp only [Bool.and_eq_true, Bool.or_eq_true, Bool.not_eq_true', decide_eq_true_eq, decide_eq_false_iff_not, bne_iff_ne, beq_iff_eq, ne_eq, ge_iff_le, gt_iff_lt, cond_eq_ite, iff_self, eq_self]; first | done | omega)) | skip)
theorem frdy_f (S : Nat → StepS) (m : Nat) (hm : m ≤ 9223372036854775807) (hq : ∀ i, i < m → (S i).q ≤ 9223372036854775807) (hv : vsB S m = false) : CallsP Tryz.prog 95 [.one (.lst 2 m (stF S)), .one (.g (.slice none 0 0))] (.tup [.one (.g (.slice none 0 0)), .one (.g (.int .i64 (1)))]) := by
  refine CallsP_of Tryz.func95 rfl (by rw [Tryz.ntmps95]; simp) ?_
  simp only [Tryz.ntmps95, zM, PT.tv, argEnv, Nat.zero_add, Nat.reduceAdd]
  repeat' (first
 | ((with_reducible show callGN _ _ false _ _ _ _ _ _ _); (with_reducible refine callGN_sq (fun h => by cases h) (fun _ => ?_)))
 | ((with_reducible show callGK _ _ false _ _ _ _); (with_reducible refine callGK_s (fun h => by cases h) (fun _ => ?_)))
 | ((with_reducible show AW _ _ _ _); first
 | (with_reducible first | refine aS (fun K hK => ?_) | refine aI ?_ | refine aX ?_ | refine aT ?_ | refine aC ?_ | refine aB ?_)
 | (first
 | (with_reducible first | refine aP 0 [0,1] ?_ | refine aP 1 [0,1] ?_ | refine aP 2 [] ?_ | refine aP 3 [0,1] ?_)))
 | ((first | (with_reducible refine And.intro ?_ ?_) | (with_reducible refine Need.mk ?_)); focus (first | exact True.intro | (with_reducible assumption) | omega | (refine ⟨?_, ?_⟩ <;> omega) | (intro _; first | exact True.intro | (with_reducible assumption) | omega) | (intros; (repeat' (first | exact True.intro | omega | (with_reducible assumption) | (with_reducible refine And.intro ?_ ?_))); done) | (simp (disch := omega) only [Bool.and_eq_true, Bool.or_eq_true, decide_eq_true_eq, bne_iff_ne, ne_eq] at *; first | done | omega | (intros; omega)) | (simp; done) | (simp; omega) | (simp +contextual; done) | (intro h; rw [h]; rfl) | (intro hq; have hq2 := hq; simp only [Bool.and_eq_true, Bool.or_eq_true, Bool.not_eq_true', Bool.not_not, Bool.not_eq_false', decide_eq_true_eq, decide_eq_false_iff_not] at hq2; (repeat' (first | exact hq | (with_reducible refine And.intro ?_ ?_) | omega | (simp_all; done))); done) | (intros; simp_all; done)))
 | (with_reducible refine retK_n ?_)
 | (with_reducible refine retK_n' ?_)
 | (with_reducible refine retH_n rfl rfl rfl ?_)
 | (with_reducible refine retH_n' rfl rfl rfl ?_)
 | ((with_reducible show condN _ _ _ _ _ _); first
 | ((with_reducible refine condN_t ?_ ?_) <;> (intro hc; (try simp only [zB, zC, reduceCtorEq] at hc); (try (exfalso; first | contradiction | omega)))))
 | ((with_reducible show callN _ _ _ _ _ _ _ _ _ _); first
 | (refine callN_q (k := 60) fnok_60 (fval_p S m hm hq) ?_ ?_))
 | ((with_reducible show callGN _ _ _ _ _ _ _ _ _ _); first
 | (refine callGN_q (k := 123) fnok_123 (fun hg => fdn_0) ?_ ?_))
 | ((fail_if_success (with_reducible show AW _ _ _ _)); simp (maxSteps := 2000000) only [go_sem, reduceIte, reduceCtorEq, xA, xL, xD, xE, xM, xS, xB, Tryz.f95, hv])
 | ((with_reducible refine hK _ ?_); clear hK K))
theorem frdy_t (S : Nat → StepS) (m : Nat) (hm : m ≤ 9223372036854775807) (hq : ∀ i, i < m → (S i).q ≤ 9223372036854775807) (hv : vsB S m = true) : CallsP Tryz.prog 95 [.one (.lst 2 m (stF S)), .one (.g (.slice none 0 0))] (.tup [.one (.lst 1 (rdL S m).length (intI (zL (rdL S m)))), .one (.g (.int .i64 (0)))]) := by
  have mk0 : True := trivial
  have hm200 := (of_decide_eq_true hv).1
  refine CallsP_of Tryz.func95 rfl (by rw [Tryz.ntmps95]; simp) ?_
  simp only [Tryz.ntmps95, zM, PT.tv, argEnv, Nat.zero_add, Nat.reduceAdd]
  repeat' (first
 | ((with_reducible show callGN _ _ false _ _ _ _ _ _ _); (with_reducible refine callGN_sq (fun h => by cases h) (fun _ => ?_)))
 | ((with_reducible show callGK _ _ false _ _ _ _); (with_reducible refine callGK_s (fun h => by cases h) (fun _ => ?_)))
 | ((with_reducible show callGK _ _ true (Oper.mk _ (Op.call _) _ _ _ _) _ _ _); (with_reducible refine callGK_s (fun _ => ?_) (fun h => by cases h)))
 | ((with_reducible show callGN _ _ _ _ _ _ _ _ _ _); first
 | ((refine callGN_sq ?_ ?_) <;> (intro hc; (try rw [hc]); (try simp only [zB, zC, reduceCtorEq] at hc); (try (exfalso; first | contradiction | omega))))
 | (refine callGN_q (k := 123) fnok_123 (fun hg => fdn_0) ?_ ?_))
 | ((with_reducible show AW _ _ _ _); first
 | (with_reducible first | refine aS (fun K hK => ?_) | refine aI ?_ | refine aX ?_ | refine aT ?_ | refine aC ?_ | refine aB ?_)
 | ((refine AW_rangeFuncH (k := 148) rfl Tryz.func148 rfl fnok_148 (by rw [Tryz.ntmps148]; simp) ?_ ?_ (fun l hlne A B hA hB => ?_)); (focus (simp (maxSteps := 2000000) only [go_sem, reduceIte, reduceCtorEq, xA, xL, xD, xE, xM, xS, xB, Tryz.f95, Tryz.f148, Tryz.f125, Tryz.f124, Tryz.f120, Tryz.f145, Tryz.f62, stF0, stF1, intI, hv, setO_nil, rdL_0, rowI_pur, rowI_snoc, rowI_len, maxLen]; try exact True.intro)); (focus (simp (maxSteps := 2000000) only [go_sem, reduceIte, reduceCtorEq, xA, xL, xD, xE, xM, xS, xB, Tryz.f95, Tryz.f148, Tryz.f125, Tryz.f124, Tryz.f120, Tryz.f145, Tryz.f62, stF0, stF1, intI, hv, setO_nil, rdL_0, rowI_pur, rowI_snoc, rowI_len, maxLen]; try exact True.intro)); simp only [Tryz.ntmps148, List.map_cons, List.map_nil, LV.tv, argEnv, yV, Nat.zero_add, Nat.reduceAdd]; clear hlne)
 | (with_reducible refine AW_eq (by assumption) ?_)
 | (first
 | (with_reducible first | refine aP 0 [0,1,2,7] ?_ | refine aP (ops := #[⟨some 6, _, _, _, _, _⟩, _, _, _, _, _, _, _]) 1 [0,1] ?_ | refine aP (ops := #[⟨some 9, _, _, _, _, _⟩]) 1 [0,2,6,7,8] ?_ | refine aP (ops := #[⟨some 6, _, _, _, _, _⟩, _]) 1 [0] ?_ | refine aP (ops := #[⟨some 5, _, _, _, _, _⟩, _]) 1 [2,3] ?_ | refine aP (ops := #[⟨some 3, _, _, _, _, _⟩, _, _]) 1 [0] ?_ | refine aP (ops := #[⟨some 6, _, _, _, _, _⟩]) 1 [1,2,7] ?_ | refine aP (ops := #[⟨some 7, _, _, _, _, _⟩, _, _]) 1 [0,1] ?_ | refine aP (ops := #[⟨some 4, _, _, _, _, _⟩, _]) 2 [] ?_ | refine aP (ops := #[⟨some 10, _, _, _, _, _⟩, _, _, _]) 2 [0,2,6,7,8] ?_ | refine aP (ops := #[⟨some 7, _, _, _, _, _⟩, _, _]) 2 [0,3] ?_ | refine aP (ops := #[⟨some 5, _, _, _, _, _⟩]) 2 [2,7] ?_ | refine aP (ops := #[⟨some 10, _, _, _, _, _⟩]) 2 [0,7,8,9] ?_ | refine aP (ops := #[⟨some 14, _, _, _, _, _⟩, _, _, _, _, _, _]) 3 [0,1] ?_ | refine aP (ops := #[⟨some 12, _, _, _, _, _⟩, _, _, _, _, _, _, _, _, _, _, _, _, _, _, _, _, _]) 3 [0,2,5,6,7,8] ?_ | refine aP (ops := #[⟨some 10, _, _, _, _, _⟩]) 3 [3,7,8,9] ?_ | refine aP (ops := #[⟨some 8, _, _, _, _, _⟩, _, _, _, _]) 3 [2,5,7] ?_ | refine aP (ops := #[⟨some 11, _, _, _, _, _⟩, _, _]) 3 [0,7,8,9] ?_ | refine aP (ops := #[⟨some 30, _, _, _, _, _⟩, _]) 4 [0,2,6,7,8] ?_ | refine aP (ops := #[⟨some 11, _, _, _, _, _⟩, _, _]) 4 [3,7,8,9] ?_ | refine aP (ops := #[⟨some 12, _, _, _, _, _⟩, _]) 4 [2] ?_ | refine aP (ops := #[⟨some 13, _, _, _, _, _⟩, _, _, _]) 4 [0,6,7,8,9] ?_ | refine aP (ops := #[⟨some 13, _, _, _, _, _⟩, _, _]) 5 [3,5,7,8,9] ?_ | refine aP (ops := #[⟨some 4, _, _, _, _, _⟩]) 5 [] ?_ | refine aP (ops := #[⟨some 15, _, _, _, _, _⟩, _]) 6 [3,7,8,9] ?_ | refine aP (ops := #[⟨some 17, _, _, _, _, _⟩, _]) 6 [0,7,8,9] ?_ | refine aP (ops := #[⟨some 16, _, _, _, _, _⟩, _]) 7 [3] ?_ | refine aP (ops := #[⟨some 4, _, _, _, _, _⟩]) 7 [] ?_))
 | ((with_reducible show AW _ (Code.loop _) _ _); first
 | ((with_reducible refine aL (c := (Code.seq (Code.region 3 _ _) _)) (ι := Nat) [3,7,8] (fun z => [(9, iA .i64 (z : Int))]) (fun z => [(0, [.mi none 0 (setO [])])]) (fun z => z = 0) (fun z => 0) 0 ?lg3 ?l13 ?l23 ?li3 ?lr3); (case' lg3 => rintro z _); (case' li3 => try (exact rfl)); (case' lr3 => rintro z hz KR hR3; simp only [keepE, hupd, hset, lk, if_true, if_false, xE, reduceIte, zN, stF0, stF1, hv, setO_nil, rdL_0, rowI_pur, rowI_snoc, rowI_len, maxLen]))
 | ((with_reducible refine aL (c := (Code.seq (Code.region 1 _ _) _)) (ι := Nat) [0,2,6,7] (fun u => [(8, iA .i64 (u : Int))]) (fun u => [(3, [.slc 4 0 (rdL S u).length 1]), (4, rowI (rdL S u))]) (fun u => u ≤ m) (fun u => m - u) 0 ?lg1 ?l11 ?l21 ?li1 ?lr1); (case' lg1 => rintro u _); (case' li1 => try (first | trivial | omega | (simp; done) | (simp; omega))); (case' lr1 => rintro u hu KR hR1; simp only [keepE, hupd, hset, lk, if_true, if_false, xE, reduceIte, zN, stF0, stF1, hv, setO_nil, rdL_0, rowI_pur, rowI_snoc, rowI_len, maxLen]))
 | ((with_reducible refine aL (c := (Code.seq (Code.region 2 _ _) _)) (ι := Nat) [0,7,8] (fun v => [(9, iA .i64 (v : Int))]) (fun v => []) (fun v => v = 0) (fun v => 0) 0 ?lg2 ?l12 ?l22 ?li2 ?lr2); (case' lg2 => rintro v _); (case' li2 => try (exact rfl)); (case' lr2 => rintro v hv0 KR hR2; simp only [keepE, hupd, hset, lk, if_true, if_false, xE, reduceIte, zN, stF0, stF1, hv, setO_nil, rdL_0, rowI_pur, rowI_snoc, rowI_len, maxLen]))))
 | ((first | (with_reducible refine And.intro ?_ ?_) | (with_reducible refine Need.mk ?_)); focus (first | exact True.intro | (with_reducible assumption) | omega | (refine ⟨?_, ?_⟩ <;> omega) | (intro _; first | exact True.intro | (with_reducible assumption) | omega) | (intros; (repeat' (first | exact True.intro | omega | (with_reducible assumption) | (with_reducible refine And.intro ?_ ?_))); done) | (simp (disch := omega) only [Bool.and_eq_true, Bool.or_eq_true, decide_eq_true_eq, bne_iff_ne, ne_eq] at *; first | done | omega | (intros; omega)) | (simp; done) | (simp; omega) | (simp +contextual; done) | (intro h; rw [h]; rfl) | (intro hq; have hq2 := hq; simp only [Bool.and_eq_true, Bool.or_eq_true, Bool.not_eq_true', Bool.not_not, Bool.not_eq_false', decide_eq_true_eq, decide_eq_false_iff_not] at hq2; (repeat' (first | exact hq | (with_reducible refine And.intro ?_ ?_) | omega | (simp_all; done))); done) | (intros; simp_all; done)))
 | (with_reducible refine retK_n ?_)
 | (with_reducible refine retK_n' ?_)
 | (with_reducible refine retH_n rfl rfl rfl ?_)
 | (with_reducible refine retH_n' rfl rfl rfl ?_)
 | ((with_reducible show condN _ _ _ _ _ _); first
 | ((with_reducible refine condN_t ?_ ?_) <;> (intro hc; (try simp only [zB, zC, reduceCtorEq] at hc); ((try (clear mk0; have hle := rdL_le S u; have hmu : u < m := (by omega)))); (try (exfalso; first | contradiction | omega)))))
 | ((with_reducible show callN _ _ _ _ _ _ _ _ _ _); first
 | (refine callN_q (k := 60) fnok_60 (fval_p S m hm hq) ?_ ?_)
 | (refine callN_q (k := 123) fnok_123 (fdn_0) ?_ ?_)
 | ((refine callN_i (k := 125) Tryz.func125 rfl fnok_125 (by rw [Tryz.ntmps125]; simp) ?_ ?_ (fun K hK => ?_)); (focus (first | exact True.intro | (with_reducible assumption) | omega | (refine ⟨?_, ?_⟩ <;> omega) | (intro _; first | exact True.intro | (with_reducible assumption) | omega) | (intros; (repeat' (first | exact True.intro | omega | (with_reducible assumption) | (with_reducible refine And.intro ?_ ?_))); done) | (simp (disch := omega) only [Bool.and_eq_true, Bool.or_eq_true, decide_eq_true_eq, bne_iff_ne, ne_eq] at *; first | done | omega | (intros; omega)) | (simp; done) | (simp; omega) | (simp +contextual; done) | (intro h; rw [h]; rfl) | (intro hq; have hq2 := hq; simp only [Bool.and_eq_true, Bool.or_eq_true, Bool.not_eq_true', Bool.not_not, Bool.not_eq_false', decide_eq_true_eq, decide_eq_false_iff_not] at hq2; (repeat' (first | exact hq | (with_reducible refine And.intro ?_ ?_) | omega | (simp_all; done))); done) | (intros; simp_all; done))); (focus (first | (simp [lsF]; done) | assumption | exact ⟨Nat.ne_of_lt (Nat.lt_succ_self _), by assumption⟩)); simp only [Tryz.ntmps125, List.map_cons, List.map_nil, List.nil_append, List.cons_append, List.append_nil, LV.tv, argEnv, Nat.zero_add, Nat.reduceAdd])
 | ((refine callN_i (k := 124) Tryz.func124 rfl fnok_124 (by rw [Tryz.ntmps124]; simp) ?_ ?_ (fun K hK => ?_)); (focus (first | exact True.intro | (with_reducible assumption) | omega | (refine ⟨?_, ?_⟩ <;> omega) | (intro _; first | exact True.intro | (with_reducible assumption) | omega) | (intros; (repeat' (first | exact True.intro | omega | (with_reducible assumption) | (with_reducible refine And.intro ?_ ?_))); done) | (simp (disch := omega) only [Bool.and_eq_true, Bool.or_eq_true, decide_eq_true_eq, bne_iff_ne, ne_eq] at *; first | done | omega | (intros; omega)) | (simp; done) | (simp; omega) | (simp +contextual; done) | (intro h; rw [h]; rfl) | (intro hq; have hq2 := hq; simp only [Bool.and_eq_true, Bool.or_eq_true, Bool.not_eq_true', Bool.not_not, Bool.not_eq_false', decide_eq_true_eq, decide_eq_false_iff_not] at hq2; (repeat' (first | exact hq | (with_reducible refine And.intro ?_ ?_) | omega | (simp_all; done))); done) | (intros; simp_all; done))); (focus (first | (simp [lsF]; done) | assumption | exact ⟨Nat.ne_of_lt (Nat.lt_succ_self _), by assumption⟩)); simp only [Tryz.ntmps124, List.map_cons, List.map_nil, List.nil_append, List.cons_append, List.append_nil, LV.tv, argEnv, Nat.zero_add, Nat.reduceAdd])
 | ((refine callN_i (k := 120) Tryz.func120 rfl fnok_120 (by rw [Tryz.ntmps120]; simp) ?_ ?_ (fun K hK => ?_)); (focus (first | exact True.intro | (with_reducible assumption) | omega | (refine ⟨?_, ?_⟩ <;> omega) | (intro _; first | exact True.intro | (with_reducible assumption) | omega) | (intros; (repeat' (first | exact True.intro | omega | (with_reducible assumption) | (with_reducible refine And.intro ?_ ?_))); done) | (simp (disch := omega) only [Bool.and_eq_true, Bool.or_eq_true, decide_eq_true_eq, bne_iff_ne, ne_eq] at *; first | done | omega | (intros; omega)) | (simp; done) | (simp; omega) | (simp +contextual; done) | (intro h; rw [h]; rfl) | (intro hq; have hq2 := hq; simp only [Bool.and_eq_true, Bool.or_eq_true, Bool.not_eq_true', Bool.not_not, Bool.not_eq_false', decide_eq_true_eq, decide_eq_false_iff_not] at hq2; (repeat' (first | exact hq | (with_reducible refine And.intro ?_ ?_) | omega | (simp_all; done))); done) | (intros; simp_all; done))); (focus (first | (simp [lsF]; done) | assumption | exact ⟨Nat.ne_of_lt (Nat.lt_succ_self _), by assumption⟩)); simp only [Tryz.ntmps120, List.map_cons, List.map_nil, List.nil_append, List.cons_append, List.append_nil, LV.tv, argEnv, Nat.zero_add, Nat.reduceAdd])
 | ((refine callN_i (k := 145) Tryz.func145 rfl fnok_145 (by rw [Tryz.ntmps145]; simp) ?_ ?_ (fun K hK => ?_)); (focus (first | exact True.intro | (with_reducible assumption) | omega | (refine ⟨?_, ?_⟩ <;> omega) | (intro _; first | exact True.intro | (with_reducible assumption) | omega) | (intros; (repeat' (first | exact True.intro | omega | (with_reducible assumption) | (with_reducible refine And.intro ?_ ?_))); done) | (simp (disch := omega) only [Bool.and_eq_true, Bool.or_eq_true, decide_eq_true_eq, bne_iff_ne, ne_eq] at *; first | done | omega | (intros; omega)) | (simp; done) | (simp; omega) | (simp +contextual; done) | (intro h; rw [h]; rfl) | (intro hq; have hq2 := hq; simp only [Bool.and_eq_true, Bool.or_eq_true, Bool.not_eq_true', Bool.not_not, Bool.not_eq_false', decide_eq_true_eq, decide_eq_false_iff_not] at hq2; (repeat' (first | exact hq | (with_reducible refine And.intro ?_ ?_) | omega | (simp_all; done))); done) | (intros; simp_all; done))); (focus (first | (simp [lsF]; done) | assumption | exact ⟨Nat.ne_of_lt (Nat.lt_succ_self _), by assumption⟩)); simp only [Tryz.ntmps145, List.map_cons, List.map_nil, List.nil_append, List.cons_append, List.append_nil, LV.tv, argEnv, Nat.zero_add, Nat.reduceAdd])
 | ((refine callN_i (k := 62) Tryz.func62 rfl fnok_62 (by rw [Tryz.ntmps62]; simp) ?_ ?_ (fun K hK => ?_)); (focus (first | exact True.intro | (with_reducible assumption) | omega | (refine ⟨?_, ?_⟩ <;> omega) | (intro _; first | exact True.intro | (with_reducible assumption) | omega) | (intros; (repeat' (first | exact True.intro | omega | (with_reducible assumption) | (with_reducible refine And.intro ?_ ?_))); done) | (simp (disch := omega) only [Bool.and_eq_true, Bool.or_eq_true, decide_eq_true_eq, bne_iff_ne, ne_eq] at *; first | done | omega | (intros; omega)) | (simp; done) | (simp; omega) | (simp +contextual; done) | (intro h; rw [h]; rfl) | (intro hq; have hq2 := hq; simp only [Bool.and_eq_true, Bool.or_eq_true, Bool.not_eq_true', Bool.not_not, Bool.not_eq_false', decide_eq_true_eq, decide_eq_false_iff_not] at hq2; (repeat' (first | exact hq | (with_reducible refine And.intro ?_ ?_) | omega | (simp_all; done))); done) | (intros; simp_all; done))); (focus (first | (simp [lsF]; done) | assumption | exact ⟨Nat.ne_of_lt (Nat.lt_succ_self _), by assumption⟩)); simp only [Tryz.ntmps62, List.map_cons, List.map_nil, List.nil_append, List.cons_append, List.append_nil, LV.tv, argEnv, Nat.zero_add, Nat.reduceAdd]))
 | ((with_reducible refine hR3 _ (z + 1) ?_); (try clear hR3 KR))
 | ((with_reducible refine hR1 _ (u + 1) ?_); (try clear hR1 KR))
 | ((with_reducible refine hR2 _ (v + 1) ?_); (try clear hR2 KR))
 | ((with_reducible refine Told.mk ?_); simp only [go_sem, reduceIte, reduceCtorEq, xA, xL, xD, xE, xM, xS, xB, stF0, stF1, intI, hv, setO_nil, rdL_0, rowI_pur, rowI_snoc, rowI_len, maxLen] <;> (first | exact True.intro | (((try simp (disch := omega) only [seaWrap, Int.natCast_add, Int.cast_ofNat_Int, and_true, true_and, and_self]); (repeat' (first | exact True.intro | omega | rfl | (with_reducible assumption) | (with_reducible refine And.intro ?_ ?_) | (exact all_succ (by assumption) (by assumption)) | ((exact rfl)) | ((exact Or.inr fun k => oeqv_rf2 _)))); done)) | (((try simp (disch := omega) only [seaWrap, Int.natCast_add, Int.cast_ofNat_Int, and_true, true_and, and_self]); (repeat' (first | exact True.intro | omega | rfl | (with_reducible assumption) | (with_reducible refine And.intro ?_ ?_) | (exact all_succ (by assumption) (by assumption)) | ((exact rfl)) | ((exact wkC_eq rfl (rowI_iv _))) | ((rw [rdL_t (by omega)]; exact wkC_eq rfl (rowI_iv _))) | ((rw [rdL_f (by omega)]; exact wkC_eq rfl (rowI_iv _))) | ((rw [rdL_t (by omega)]; simp only [List.length_append, List.length_cons, List.length_nil, Nat.zero_add]; done)) | ((rw [rdL_t (by omega)]; simp; done)) | ((rw [rdL_f (by omega)]; done)) | ((rw [rdL_f (by omega)])))); done)) | (((try simp (disch := omega) only [seaWrap, Int.natCast_add, Int.cast_ofNat_Int, and_true, true_and, and_self]); (repeat' (first | exact True.intro | omega | rfl | (with_reducible assumption) | (with_reducible refine And.intro ?_ ?_) | (exact all_succ (by assumption) (by assumption)) | ((exact rfl)))); done)) | (refine Stuck.out ?_)))
 | ((fail_if_success (with_reducible show AW _ _ _ _)); simp (maxSteps := 2000000) only [go_sem, reduceIte, reduceCtorEq, xA, xL, xD, xE, xM, xS, xB, Tryz.f95, Tryz.f148, Tryz.f125, Tryz.f124, Tryz.f120, Tryz.f145, Tryz.f62, stF0, stF1, intI, hv, setO_nil, rdL_0, rowI_pur, rowI_snoc, rowI_len, maxLen])
 | ((fail_if_success (with_reducible show AW _ _ _ _)); simp (disch := omega) only [seaWrap, seaDiv, seaMod])
 | ((with_reducible show callN _ _ _ _ _ _ (.yld _) _ _ _); (refine callN_y (by simp only [lkL, if_true]; exact rfl) ?_ (by simp) ?_ ?_ (fun K hK => ?_)); (focus (first | exact True.intro | (with_reducible assumption) | omega | (refine ⟨?_, ?_⟩ <;> omega) | (intro _; first | exact True.intro | (with_reducible assumption) | omega) | (intros; (repeat' (first | exact True.intro | omega | (with_reducible assumption) | (with_reducible refine And.intro ?_ ?_))); done) | (simp (disch := omega) only [Bool.and_eq_true, Bool.or_eq_true, decide_eq_true_eq, bne_iff_ne, ne_eq] at *; first | done | omega | (intros; omega)) | (simp; done) | (simp; omega) | (simp +contextual; done) | (intro h; rw [h]; rfl) | (intro hq; have hq2 := hq; simp only [Bool.and_eq_true, Bool.or_eq_true, Bool.not_eq_true', Bool.not_not, Bool.not_eq_false', decide_eq_true_eq, decide_eq_false_iff_not] at hq2; (repeat' (first | exact hq | (with_reducible refine And.intro ?_ ?_) | omega | (simp_all; done))); done) | (intros; simp_all; done))); (focus (simp [ltAll])); (focus (first | (simp [lsF]; done) | assumption | exact ⟨Nat.ne_of_lt (Nat.lt_succ_self _), by assumption⟩)); simp only [zipPut, gf, if_true, Nat.reduceAdd])
 | ((with_reducible refine hK _ ?_); clear hK K)
 | (with_reducible apply_assumption -exfalso only [*]))
  all_goals (first | (have e7 : u = m := (by omega); subst e7; exact ⟨fun c hc9 => (by have := rowI_iv _ c hc9; cases c <;> first | trivial | exact this.elim), rfl, fun i o hi ho => row_zL _ i o hi ho⟩) | skip)
end Go.Proofs.YtmnejmpjmniiiaaGreatDoor
set_option maxRecDepth 100000
set_option maxHeartbeats 4000000
namespace Go.Proofs.YtmnejmpjmniiiaaGreatDoor
open Go.RowKit Go.Sea
open Nat renaming reduceAdd → xA, reduceLT → xL, reduceLeDiff → xD, reduceEqDiff → xE, reduceMul → xM, reduceSub → xS, reduceBEq → xB
theorem ar_24 : arD Tryz.prog 24 = none := by kernel_rfl
theorem fnok_102 : fnOk Tryz.prog 102 = true := by kernel_rfl
theorem fnok_103 : fnOk Tryz.prog 103 = true := by kernel_rfl
theorem fnok_95 : fnOk Tryz.prog 95 = true := by kernel_rfl
theorem fnok_97 : fnOk Tryz.prog 97 = true := by kernel_rfl
theorem le_24 : lenD Tryz.prog 24 = some true := by kernel_rfl
theorem sl_24 : slD Tryz.prog 24 = some (1, 24, 54) := by kernel_rfl
attribute [go_sem] ar_24 fnok_103 fnok_95 le_24 sl_24
theorem hit_t {x y : OpS} (h : x.id = y.id ∧ ((x.kd = y.kd ∨ fldB x = false) ∨ fldB y = false)) : hitB x y = true := decide_eq_true ⟨h.1, by rcases h.2 with (g | g) | g <;> simp [g]⟩
theorem hit_f {x y : OpS} (h : x.id ≠ y.id ∨ (x.kd ≠ y.kd ∧ fldB x = true) ∧ fldB y = true) : hitB x y = false := decide_eq_false (fun ⟨h1, h2⟩ => h.elim (fun g => g h1) (fun g => h2.elim (fun e => g.1.1 e) (fun e => e.elim (fun e => by rw [g.1.2] at e; cases e) (fun e => by rw [g.2] at e; cases e))))
def CmE (k : Nat) (o : Nat → OpS) (l : Nat) (p : Nat → OpS) : Int := if opsB k o = true ∧ opsB l p = true then 0 else 1
def CmX (k : Nat) (o : Nat → OpS) (l : Nat) (p : Nat → OpS) : Int := if opsB k o = true ∧ opsB l p = true then comX k o l p else 0
def CmY (k : Nat) (o : Nat → OpS) (l : Nat) (p : Nat → OpS) : Int := if opsB k o = true ∧ opsB l p = true then comY k o l p else 0
def badB (k : Nat) (o : Nat → OpS) : Bool := decide (∃ j, j < k ∧ opB (o j) = false)
theorem bad_t {k : Nat} {o : Nat → OpS} {j : Nat} (hj : (j : Int) < k) (h : opB (o j) = false) : true = badB k o := (decide_eq_true ⟨j, by omega, h⟩).symm
theorem bad_f {k : Nat} {o : Nat → OpS} {j : Nat} (hj : (k : Int) ≤ j) (h : ∀ i, i < j → opB (o i) = true) : false = badB k o := (decide_eq_false fun ⟨i, h1, h2⟩ => by rw [h i (by omega)] at h2; cases h2).symm
theorem ops_f1 {k : Nat} {o : Nat → OpS} (h : (k : Int) > 100 ∨ badB k o = true) : opsB k o = false := decide_eq_false fun g => by
  rcases h with h | h
  · omega
  · obtain ⟨j, h1, h2⟩ := of_decide_eq_true h; rw [g.2 j h1] at h2; cases h2
theorem ops_t1 {k : Nat} {o : Nat → OpS} (h : (k : Int) ≤ 100 ∧ badB k o = false) : opsB k o = true := decide_eq_true ⟨by omega, fun j hj => by
  cases e : opB (o j) with
  | true => rfl
  | false => exact absurd ⟨j, hj, e⟩ (of_decide_eq_false h.2)⟩
theorem smK_s (O : Nat → PtS) (i : Nat) : smK O (i + 1) = smK O i + (O i).k := rfl
theorem smK_le {O : Nat → PtS} : ∀ {i : Nat}, (∀ j, j < i → opsB (O j).k (O j).o = true) → smK O i ≤ 100 * i
  | 0, _ => Nat.le_refl _
  | i + 1, h => by
    have := smK_le (i := i) fun j hj => h j (by omega)
    have := (of_decide_eq_true (h i (by omega))).1
    rw [smK_s]; omega
theorem cv_1 {x : CaS} (h : badO x) : 1 = cvE x := by unfold cvE; rw [if_pos h]
theorem cv_v {x : CaS} (h : vsB x.S x.m = false) : 1 = cvE x := cv_1 (Or.inl h)
theorem cv_h {x : CaS} (h : ((0 : Int) ≠ 0 ∨ feaB x.n x.f = false) ∨ (x.mo : Int) ≠ x.m) : 1 = cvE x := cv_1 (h.elim (fun h => h.elim (fun h => absurd rfl h) (fun h => Or.inr (Or.inl h))) (fun h => Or.inr (Or.inr (Or.inl (by omega)))))
theorem cv_o {x : CaS} {i : Nat} (hi : (i : Int) < x.mo) (h : ((x.O i).k : Int) > 100 ∨ badB (x.O i).k (x.O i).o = true) : 1 = cvE x := cv_1 (Or.inr (Or.inr (Or.inr ⟨i, by omega, ops_f1 h⟩)))
theorem cv_g {x : CaS} (hv : vsB x.S x.m = true) (hf : feaB x.n x.f = true ∧ (x.mo : Int) = x.m) {i : Nat} (hi : (x.mo : Int) ≤ i) (hi2 : i ≤ x.mo) (h : ∀ j, j < i → opsB (x.O j).k (x.O j).o = true) : ¬ badO x ∧ i = x.mo := by
  refine ⟨?_, by omega⟩
  intro g
  rcases g with g | g | g | ⟨j, h1, h2⟩
  · rw [hv] at g; cases g
  · rw [hf.1] at g; cases g
  · omega
  · rw [h j (by omega)] at h2; cases h2
theorem cv_2 {x : CaS} (h0 : ¬ badO x) (h : (x.m : Int) > 10 ∨ (x.n : Int) + (smK x.O x.mo : Int) > 300) : 2 = cvE x := by unfold cvE; rw [if_neg h0, if_pos (by omega)]
theorem cv_0 {x : CaS} (h0 : ¬ badO x) (h : (x.m : Int) ≤ 10 ∧ (x.n : Int) + (smK x.O x.mo : Int) ≤ 300) : 0 = cvE x := by unfold cvE; rw [if_neg h0, if_neg (by omega)]
theorem comm_f (k : Nat) (o : Nat → OpS) (l : Nat) (p : Nat → OpS) (hk : k ≤ 9223372036854775807) (ho : ∀ i, i < k → (o i).f.Ok) (hl : l ≤ 9223372036854775807) (hp : ∀ i, i < l → (p i).f.Ok) (hv : opsB k o = false) : CallsP Tryz.prog 67 [.one (.lst 16 k (oprF o)), .one (.lst 16 l (oprF p))] (.tup [.one (.g (.int .i64 (CmX k o l p))), .one (.g (.int .i64 (CmY k o l p))), .one (.g (.int .i64 (CmE k o l p)))]) := by
  refine CallsP_of Tryz.func67 rfl (by rw [Tryz.ntmps67]; simp) ?_
  simp only [Tryz.ntmps67, zM, PT.tv, argEnv, Nat.zero_add, Nat.reduceAdd]
  repeat' (first
 | ((with_reducible show callGN _ _ false _ _ _ _ _ _ _); (with_reducible refine callGN_sq (fun h => by cases h) (fun _ => ?_)))
 | ((with_reducible show callGK _ _ false _ _ _ _); (with_reducible refine callGK_s (fun h => by cases h) (fun _ => ?_)))
 | ((with_reducible show AW _ _ _ _); first
 | (with_reducible first | refine aS (fun K hK => ?_) | refine aI ?_ | refine aX ?_ | refine aT ?_ | refine aC ?_ | refine aB ?_)
 | (first
 | (with_reducible first | refine aP 0 [0,1] ?_ | refine aP 1 [0,1] ?_ | refine aP 2 [] ?_ | refine aP 3 [0,1] ?_ | refine aP 4 [1,18,19,20] ?_ | refine aP 5 [1,18,19,20] ?_ | refine aP 6 [1,7,8,18,19,20] ?_ | refine aP 7 [1,7,9,18,19,20] ?_ | refine aP 8 [7,9] ?_ | refine aP 9 [1,18,19,20] ?_ | refine aP 10 [] ?_)))
 | ((first | (with_reducible refine And.intro ?_ ?_) | (with_reducible refine Need.mk ?_)); focus (first | exact True.intro | (with_reducible assumption) | omega | (refine ⟨?_, ?_⟩ <;> omega) | (intro _; first | exact True.intro | (with_reducible assumption) | omega) | (intros; (repeat' (first | exact True.intro | omega | (with_reducible assumption) | (with_reducible refine And.intro ?_ ?_))); done) | (simp (disch := omega) only [Bool.and_eq_true, Bool.or_eq_true, decide_eq_true_eq, bne_iff_ne, ne_eq] at *; first | done | omega | (intros; omega)) | (simp; done) | (simp; omega) | (simp +contextual; done) | (intro h; rw [h]; rfl) | (intro hq; have hq2 := hq; simp only [Bool.and_eq_true, Bool.or_eq_true, Bool.not_eq_true', Bool.not_not, Bool.not_eq_false', decide_eq_true_eq, decide_eq_false_iff_not] at hq2; (repeat' (first | exact hq | (with_reducible refine And.intro ?_ ?_) | omega | (simp_all; done))); done) | (intros; simp_all; done)))
 | (with_reducible refine retK_n ?_)
 | (with_reducible refine retK_n' ?_)
 | (with_reducible refine retH_n rfl rfl rfl ?_)
 | (with_reducible refine retH_n' rfl rfl rfl ?_)
 | ((with_reducible show condN _ _ _ _ _ _); first
 | ((with_reducible refine condN_t ?_ ?_) <;> (intro hc; (try simp only [zB, zC, reduceCtorEq] at hc); (try (exfalso; first | contradiction | omega)))))
 | ((with_reducible show callN _ _ _ _ _ _ _ _ _ _); first
 | (refine callN_q (k := 90) fnok_90 (pvalid_p k o hk ho) ?_ ?_)
 | (refine callN_q (k := 90) fnok_90 (pvalid_p l p hl hp) ?_ ?_))
 | ((with_reducible show callGN _ _ _ _ _ _ _ _ _ _); first
 | (refine callGN_q (k := 90) fnok_90 (fun hg => pvalid_p k o hk ho) ?_ ?_)
 | (refine callGN_q (k := 90) fnok_90 (fun hg => pvalid_p l p hl hp) ?_ ?_))
 | ((fail_if_success (with_reducible show AW _ _ _ _)); simp (maxSteps := 2000000) only [go_sem, reduceIte, reduceCtorEq, xA, xL, xD, xE, xM, xS, xB, Tryz.f67, hv])
 | ((fail_if_success (with_reducible show AW _ _ _ _)); simp (disch := omega) only [seaWrap, seaDiv, seaMod])
 | ((with_reducible refine hK _ ?_); clear hK K))
  all_goals (first | (unfold CmX CmY CmE; simp [hv]; done) | skip)
theorem comm_g (k : Nat) (o : Nat → OpS) (l : Nat) (p : Nat → OpS) (hk : k ≤ 9223372036854775807) (ho : ∀ i, i < k → (o i).f.Ok) (hl : l ≤ 9223372036854775807) (hp : ∀ i, i < l → (p i).f.Ok) (hv : opsB k o = true) (hw : opsB l p = false) : CallsP Tryz.prog 67 [.one (.lst 16 k (oprF o)), .one (.lst 16 l (oprF p))] (.tup [.one (.g (.int .i64 (CmX k o l p))), .one (.g (.int .i64 (CmY k o l p))), .one (.g (.int .i64 (CmE k o l p)))]) := by
  refine CallsP_of Tryz.func67 rfl (by rw [Tryz.ntmps67]; simp) ?_
  simp only [Tryz.ntmps67, zM, PT.tv, argEnv, Nat.zero_add, Nat.reduceAdd]
  repeat' (first
 | ((with_reducible show callGN _ _ false _ _ _ _ _ _ _); (with_reducible refine callGN_sq (fun h => by cases h) (fun _ => ?_)))
 | ((with_reducible show callGK _ _ false _ _ _ _); (with_reducible refine callGK_s (fun h => by cases h) (fun _ => ?_)))
 | ((with_reducible show AW _ _ _ _); first
 | (with_reducible first | refine aS (fun K hK => ?_) | refine aI ?_ | refine aX ?_ | refine aT ?_ | refine aC ?_ | refine aB ?_)
 | (first
 | (with_reducible first | refine aP 0 [0,1] ?_ | refine aP 1 [0,1] ?_ | refine aP 2 [] ?_ | refine aP 3 [0,1] ?_ | refine aP 4 [1,18,19,20] ?_ | refine aP 5 [1,18,19,20] ?_ | refine aP 6 [1,7,8,18,19,20] ?_ | refine aP 7 [1,7,9,18,19,20] ?_ | refine aP 8 [7,9] ?_ | refine aP 9 [1,18,19,20] ?_ | refine aP 10 [] ?_)))
 | ((first | (with_reducible refine And.intro ?_ ?_) | (with_reducible refine Need.mk ?_)); focus (first | exact True.intro | (with_reducible assumption) | omega | (refine ⟨?_, ?_⟩ <;> omega) | (intro _; first | exact True.intro | (with_reducible assumption) | omega) | (intros; (repeat' (first | exact True.intro | omega | (with_reducible assumption) | (with_reducible refine And.intro ?_ ?_))); done) | (simp (disch := omega) only [Bool.and_eq_true, Bool.or_eq_true, decide_eq_true_eq, bne_iff_ne, ne_eq] at *; first | done | omega | (intros; omega)) | (simp; done) | (simp; omega) | (simp +contextual; done) | (intro h; rw [h]; rfl) | (intro hq; have hq2 := hq; simp only [Bool.and_eq_true, Bool.or_eq_true, Bool.not_eq_true', Bool.not_not, Bool.not_eq_false', decide_eq_true_eq, decide_eq_false_iff_not] at hq2; (repeat' (first | exact hq | (with_reducible refine And.intro ?_ ?_) | omega | (simp_all; done))); done) | (intros; simp_all; done)))
 | (with_reducible refine retK_n ?_)
 | (with_reducible refine retK_n' ?_)
 | (with_reducible refine retH_n rfl rfl rfl ?_)
 | (with_reducible refine retH_n' rfl rfl rfl ?_)
 | ((with_reducible show condN _ _ _ _ _ _); first
 | ((with_reducible refine condN_t ?_ ?_) <;> (intro hc; (try simp only [zB, zC, reduceCtorEq] at hc); (try (exfalso; first | contradiction | omega)))))
 | ((with_reducible show callN _ _ _ _ _ _ _ _ _ _); first
 | (refine callN_q (k := 90) fnok_90 (pvalid_p k o hk ho) ?_ ?_)
 | (refine callN_q (k := 90) fnok_90 (pvalid_p l p hl hp) ?_ ?_))
 | ((with_reducible show callGN _ _ _ _ _ _ _ _ _ _); first
 | (refine callGN_q (k := 90) fnok_90 (fun hg => pvalid_p k o hk ho) ?_ ?_)
 | (refine callGN_q (k := 90) fnok_90 (fun hg => pvalid_p l p hl hp) ?_ ?_))
 | ((fail_if_success (with_reducible show AW _ _ _ _)); simp (maxSteps := 2000000) only [go_sem, reduceIte, reduceCtorEq, xA, xL, xD, xE, xM, xS, xB, Tryz.f67, hv, hw])
 | ((fail_if_success (with_reducible show AW _ _ _ _)); simp (disch := omega) only [seaWrap, seaDiv, seaMod])
 | ((with_reducible refine hK _ ?_); clear hK K))
  all_goals (first | (unfold CmX CmY CmE; simp [hv, hw]; done) | skip)
theorem comm_t (k : Nat) (o : Nat → OpS) (l : Nat) (p : Nat → OpS) (hk : k ≤ 9223372036854775807) (ho : ∀ i, i < k → (o i).f.Ok) (hl : l ≤ 9223372036854775807) (hp : ∀ i, i < l → (p i).f.Ok) (hv : opsB k o = true) (hw : opsB l p = true) : CallsP Tryz.prog 67 [.one (.lst 16 k (oprF o)), .one (.lst 16 l (oprF p))] (.tup [.one (.g (.int .i64 (CmX k o l p))), .one (.g (.int .i64 (CmY k o l p))), .one (.g (.int .i64 (CmE k o l p)))]) := by
  have hk1 := (of_decide_eq_true hv).1
  have hl1 := (of_decide_eq_true hw).1
  refine CallsP_of Tryz.func67 rfl (by rw [Tryz.ntmps67]; simp) ?_
  simp only [Tryz.ntmps67, zM, PT.tv, argEnv, Nat.zero_add, Nat.reduceAdd]
  repeat' (first
 | ((with_reducible show callGN _ _ false _ _ _ _ _ _ _); (with_reducible refine callGN_sq (fun h => by cases h) (fun _ => ?_)))
 | ((with_reducible show callGK _ _ false _ _ _ _); (with_reducible refine callGK_s (fun h => by cases h) (fun _ => ?_)))
 | ((with_reducible show AW _ _ _ _); first
 | (with_reducible first | refine aS (fun K hK => ?_) | refine aI ?_ | refine aX ?_ | refine aT ?_ | refine aC ?_ | refine aB ?_)
 | (first
 | (with_reducible first | refine aP (ops := #[⟨some 4, _, _, _, _, _⟩, _, _]) 0 [0,1] ?_ | refine aP (ops := #[⟨some 4, _, _, _, _, _⟩]) 0 [0,1] ?_ | refine aP (ops := #[⟨some 2, _, _, _, _, _⟩, _]) 0 [0,1] ?_ | refine aP (ops := #[⟨some 10, _, _, _, _, _⟩, _, _, _, _, _, _, _]) 1 [0,1] ?_ | refine aP (ops := #[⟨some 6, _, _, _, _, _⟩, _, _]) 1 [0,1] ?_ | refine aP (ops := #[⟨some 4, _, _, _, _, _⟩, _, _, _, _, _, _, _, _, _, _, _, _, _, _, _, _, _, _, _, _, _, _]) 1 [1,2] ?_ | refine aP (ops := #[⟨some 4, _, _, _, _, _⟩, _, _]) 2 [] ?_ | refine aP (ops := #[⟨some 9, _, _, _, _, _⟩]) 2 [0,1,7,8] ?_ | refine aP (ops := #[⟨some 18, _, _, _, _, _⟩, _, _]) 3 [0,1] ?_ | refine aP (ops := #[⟨some 10, _, _, _, _, _⟩, _]) 3 [0,1,7,8] ?_ | refine aP (ops := #[⟨some 21, _, _, _, _, _⟩]) 4 [1,18,19,20] ?_ | refine aP (ops := #[⟨some 11, _, _, _, _, _⟩, _, _, _, _, _]) 4 [0,1,5,7,8] ?_ | refine aP (ops := #[⟨some 22, _, _, _, _, _⟩, _, _, _, _, _]) 5 [1,18,19,20] ?_ | refine aP (ops := #[⟨some 17, _, _, _, _, _⟩, _]) 5 [5] ?_ | refine aP (ops := #[⟨some 25, _, _, _, _, _⟩, _, _, _]) 6 [1,7,8,18,19,20] ?_ | refine aP (ops := #[⟨some 18, _, _, _, _, _⟩, _]) 6 [0,1,7,8] ?_ | refine aP (ops := #[⟨some 28, _, _, _, _, _⟩, _]) 7 [1,7,9,18,19,20] ?_ | refine aP (ops := #[⟨some 4, _, _, _, _, _⟩]) 7 [] ?_ | refine aP 8 [7,9] ?_ | refine aP 9 [1,18,19,20] ?_ | refine aP 10 [] ?_))
 | ((with_reducible show AW _ (Code.loop _) _ _); first
 | ((with_reducible refine aL (c := (Code.seq (Code.region 4 _ _) _)) (ι := Nat) [1,18,19] (fun i => [(20, iA .i64 (i : Int))]) (fun i => []) (fun i => i ≤ k ∧ (∀ i', i' < i → ∀ j, j < l → hitB (o i') (p j) = false)) (fun i => k - i) 0 ?lg4 ?l14 ?l24 ?li4 ?lr4); (case' lg4 => rintro i _); (case' li4 => try (exact ⟨Nat.zero_le _, fun i hi => absurd hi (Nat.not_lt_zero _)⟩)); (case' lr4 => rintro i ⟨hi, hai⟩ KR hR4; simp only [keepE, hupd, hset, lk, if_true, if_false, xE, reduceIte, zN, hv, hw]))
 | ((with_reducible refine aL (c := (Code.seq (Code.region 2 _ _) _)) (ι := Nat) [0,1,7] (fun j => [(8, iA .i64 (j : Int))]) (fun j => []) (fun j => j ≤ l ∧ (∀ j', j' < j → hitB (o i) (p j') = false)) (fun j => l - j) 0 ?lg2 ?l12 ?l22 ?li2 ?lr2); (case' lg2 => rintro j _); (case' li2 => try (exact ⟨Nat.zero_le _, fun i hi => absurd hi (Nat.not_lt_zero _)⟩)); (case' lr2 => rintro j ⟨hj, haj⟩ KR hR2; simp only [keepE, hupd, hset, lk, if_true, if_false, xE, reduceIte, zN, hv, hw]))))
 | ((first | (with_reducible refine And.intro ?_ ?_) | (with_reducible refine Need.mk ?_)); focus (first | exact True.intro | (with_reducible assumption) | omega | (refine ⟨?_, ?_⟩ <;> omega) | (intro _; first | exact True.intro | (with_reducible assumption) | omega) | (intros; (repeat' (first | exact True.intro | omega | (with_reducible assumption) | (with_reducible refine And.intro ?_ ?_))); done) | (simp (disch := omega) only [Bool.and_eq_true, Bool.or_eq_true, decide_eq_true_eq, bne_iff_ne, ne_eq] at *; first | done | omega | (intros; omega)) | (simp; done) | (simp; omega) | (simp +contextual; done) | (intro h; rw [h]; rfl) | (intro hq; have hq2 := hq; simp only [Bool.and_eq_true, Bool.or_eq_true, Bool.not_eq_true', Bool.not_not, Bool.not_eq_false', decide_eq_true_eq, decide_eq_false_iff_not] at hq2; (repeat' (first | exact hq | (with_reducible refine And.intro ?_ ?_) | omega | (simp_all; done))); done) | (intros; simp_all; done)))
 | (with_reducible refine retK_n ?_)
 | (with_reducible refine retK_n' ?_)
 | (with_reducible refine retH_n rfl rfl rfl ?_)
 | (with_reducible refine retH_n' rfl rfl rfl ?_)
 | ((with_reducible show condN _ _ _ _ _ _); first
 | ((with_reducible refine condN_t ?_ ?_) <;> (intro hc; (try simp only [zB, zC, reduceCtorEq] at hc); (try (exfalso; first | contradiction | omega)))))
 | ((with_reducible show callN _ _ _ _ _ _ _ _ _ _); first
 | (refine callN_q (k := 90) fnok_90 (pvalid_p k o hk ho) ?_ ?_)
 | (refine callN_q (k := 90) fnok_90 (pvalid_p l p hl hp) ?_ ?_)
 | (refine callN_q (k := 103) fnok_103 (pfld_p (o i) (ho i (by omega))) ?_ ?_)
 | (refine callN_q (k := 103) fnok_103 (pfld_p (p j) (hp j (by omega))) ?_ ?_)
 | ((refine callN_i (k := 101) Tryz.func101 rfl fnok_101 (by rw [Tryz.ntmps101]; simp) ?_ ?_ (fun K hK => ?_)); (focus (first | exact True.intro | (with_reducible assumption) | omega | (refine ⟨?_, ?_⟩ <;> omega) | (intro _; first | exact True.intro | (with_reducible assumption) | omega) | (intros; (repeat' (first | exact True.intro | omega | (with_reducible assumption) | (with_reducible refine And.intro ?_ ?_))); done) | (simp (disch := omega) only [Bool.and_eq_true, Bool.or_eq_true, decide_eq_true_eq, bne_iff_ne, ne_eq] at *; first | done | omega | (intros; omega)) | (simp; done) | (simp; omega) | (simp +contextual; done) | (intro h; rw [h]; rfl) | (intro hq; have hq2 := hq; simp only [Bool.and_eq_true, Bool.or_eq_true, Bool.not_eq_true', Bool.not_not, Bool.not_eq_false', decide_eq_true_eq, decide_eq_false_iff_not] at hq2; (repeat' (first | exact hq | (with_reducible refine And.intro ?_ ?_) | omega | (simp_all; done))); done) | (intros; simp_all; done))); (focus (first | (simp [lsF]; done) | assumption | exact ⟨Nat.ne_of_lt (Nat.lt_succ_self _), by assumption⟩)); simp only [Tryz.ntmps101, List.map_cons, List.map_nil, List.nil_append, List.cons_append, List.append_nil, LV.tv, argEnv, Nat.zero_add, Nat.reduceAdd])
 | ((refine callN_ic (k := 102) Tryz.func102 rfl fnok_102 (by rw [Tryz.ntmps102]; simp) ?_ ?_ (fun K hK => ?_)); (focus (first | exact True.intro | (with_reducible assumption) | omega | (refine ⟨?_, ?_⟩ <;> omega) | (intro _; first | exact True.intro | (with_reducible assumption) | omega) | (intros; (repeat' (first | exact True.intro | omega | (with_reducible assumption) | (with_reducible refine And.intro ?_ ?_))); done) | (simp (disch := omega) only [Bool.and_eq_true, Bool.or_eq_true, decide_eq_true_eq, bne_iff_ne, ne_eq] at *; first | done | omega | (intros; omega)) | (simp; done) | (simp; omega) | (simp +contextual; done) | (intro h; rw [h]; rfl) | (intro hq; have hq2 := hq; simp only [Bool.and_eq_true, Bool.or_eq_true, Bool.not_eq_true', Bool.not_not, Bool.not_eq_false', decide_eq_true_eq, decide_eq_false_iff_not] at hq2; (repeat' (first | exact hq | (with_reducible refine And.intro ?_ ?_) | omega | (simp_all; done))); done) | (intros; simp_all; done))); (focus (first | (simp [lsF]; done) | assumption | exact ⟨Nat.ne_of_lt (Nat.lt_succ_self _), by assumption⟩)); simp only [Tryz.ntmps102, List.map_cons, List.map_nil, List.nil_append, List.cons_append, List.append_nil, LV.tv, argEnv, Nat.zero_add, Nat.reduceAdd]))
 | ((with_reducible show callGN _ _ _ _ _ _ _ _ _ _); first
 | (refine callGN_q (k := 90) fnok_90 (fun hg => pvalid_p k o hk ho) ?_ ?_)
 | (refine callGN_q (k := 90) fnok_90 (fun hg => pvalid_p l p hl hp) ?_ ?_)
 | (refine callGN_q (k := 103) fnok_103 (fun hg => pfld_p (o i) (ho i (by omega))) ?_ ?_)
 | (refine callGN_q (k := 103) fnok_103 (fun hg => pfld_p (p j) (hp j (by omega))) ?_ ?_))
 | ((with_reducible refine hR4 _ (i + 1) ?_); (try clear hR4 KR))
 | ((with_reducible refine hR2 _ (j + 1) ?_); (try clear hR2 KR))
 | ((with_reducible refine Told.mk ?_); simp only [go_sem, reduceIte, reduceCtorEq, xA, xL, xD, xE, xM, xS, xB, hv, hw] <;> (first | exact True.intro | (((try simp (disch := omega) only [seaWrap, Int.natCast_add, Int.cast_ofNat_Int, and_true, true_and, and_self]); (repeat' (first | exact True.intro | omega | rfl | (with_reducible assumption) | (with_reducible refine And.intro ?_ ?_) | (exact all_succ (by assumption) (by assumption)) | ((exact all_succ (by assumption) (fun t ht => haj t (by omega)))))); done)) | (((try simp (disch := omega) only [seaWrap, Int.natCast_add, Int.cast_ofNat_Int, and_true, true_and, and_self]); (repeat' (first | exact True.intro | omega | rfl | (with_reducible assumption) | (with_reducible refine And.intro ?_ ?_) | (exact all_succ (by assumption) (by assumption)) | ((exact all_succ (by assumption) (hit_f hc))))); done)) | (refine Stuck.out ?_)))
 | ((fail_if_success (with_reducible show AW _ _ _ _)); simp (maxSteps := 2000000) only [go_sem, reduceIte, reduceCtorEq, xA, xL, xD, xE, xM, xS, xB, Tryz.f67, Tryz.f101, Tryz.f102, hv, hw])
 | ((fail_if_success (with_reducible show AW _ _ _ _)); simp (disch := omega) only [seaWrap, seaDiv, seaMod])
 | ((with_reducible refine hK _ ?_); clear hK K)
 | (with_reducible apply_assumption -exfalso only [*]))
  all_goals first
    | (have e := com_h (k := k) (l := l) (by omega) hai (by omega) (hit_t (by assumption)) haj; unfold CmX CmY CmE; rw [if_pos ⟨hv, hw⟩, if_pos ⟨hv, hw⟩, if_pos ⟨hv, hw⟩]; exact ⟨e.1, e.2, rfl⟩)
    | (have e := com_n (k := k) (l := l) (p := p) (by omega) hai; unfold CmX CmY CmE; rw [if_pos ⟨hv, hw⟩, if_pos ⟨hv, hw⟩, if_pos ⟨hv, hw⟩]; exact ⟨e.1, e.2, rfl⟩)
    | skip
theorem comm_p (k : Nat) (o : Nat → OpS) (l : Nat) (p : Nat → OpS) (hk : k ≤ 9223372036854775807) (ho : ∀ i, i < k → (o i).f.Ok) (hl : l ≤ 9223372036854775807) (hp : ∀ i, i < l → (p i).f.Ok) : CallsP Tryz.prog 67 [.one (.lst 16 k (oprF o)), .one (.lst 16 l (oprF p))] (.tup [.one (.g (.int .i64 (CmX k o l p))), .one (.g (.int .i64 (CmY k o l p))), .one (.g (.int .i64 (CmE k o l p)))]) := by
  cases hv : opsB k o with
  | false => exact comm_f k o l p hk ho hl hp hv
  | true => cases hw : opsB l p with
    | false => exact comm_g k o l p hk ho hl hp hv hw
    | true => exact comm_t k o l p hk ho hl hp hv hw
theorem cbad_p (o : OpS) (ho : o.f.Ok) : CallsP Tryz.prog 97 [.agg [.g (.int .i64 (o.kd)), .g (.int .i64 (o.id)), .g (.int .i64 (o.f.id)), .g (.int .i64 (o.f.kd)), .g (.int .i64 (o.f.x)), .g (.int .i64 (o.f.y)), .g (.int .i64 (o.f.r)), .lst 2 o.f.n (ptI o.f.P), .g (.int .i64 (o.f.d)), .g (.int .i64 (o.f.s)), .lst 6 o.f.m (ptI o.f.S), .g (.int .i64 (o.x)), .g (.int .i64 (o.y)), .g (.int .i64 (o.r)), .g (.int .i64 (o.d)), .g (.int .i64 (o.s))]] (.t (.one (.g (.bool (!opB o))))) := by
  refine CallsP_of Tryz.func97 rfl (by rw [Tryz.ntmps97]; simp) ?_
  simp only [Tryz.ntmps97, zM, PT.tv, argEnv, Nat.zero_add, Nat.reduceAdd]
  repeat' (first
 | ((with_reducible show AW _ _ _ _); first
 | (with_reducible first | refine aS (fun K hK => ?_) | refine aI ?_ | refine aX ?_ | refine aT ?_ | refine aC ?_ | refine aB ?_)
 | (first
 | (with_reducible first | refine aP 0 [0] ?_ | refine aP 1 [1] ?_)))
 | ((first | (with_reducible refine And.intro ?_ ?_) | (with_reducible refine Need.mk ?_)); focus (first | exact True.intro | (with_reducible assumption) | omega | (refine ⟨?_, ?_⟩ <;> omega) | (intro _; first | exact True.intro | (with_reducible assumption) | omega) | (intros; (repeat' (first | exact True.intro | omega | (with_reducible assumption) | (with_reducible refine And.intro ?_ ?_))); done) | (simp (disch := omega) only [Bool.and_eq_true, Bool.or_eq_true, decide_eq_true_eq, bne_iff_ne, ne_eq] at *; first | done | omega | (intros; omega)) | (simp; done) | (simp; omega) | (simp +contextual; done) | (intro h; rw [h]; rfl) | (intro hq; have hq2 := hq; simp only [Bool.and_eq_true, Bool.or_eq_true, Bool.not_eq_true', Bool.not_not, Bool.not_eq_false', decide_eq_true_eq, decide_eq_false_iff_not] at hq2; (repeat' (first | exact hq | (with_reducible refine And.intro ?_ ?_) | omega | (simp_all; done))); done) | (intros; simp_all; done)))
 | (with_reducible refine retK_n ?_)
 | (with_reducible refine retK_n' ?_)
 | (with_reducible refine retH_n rfl rfl rfl ?_)
 | (with_reducible refine retH_n' rfl rfl rfl ?_)
 | ((with_reducible show condN _ _ _ _ _ _); first
 | ((with_reducible refine condN_t ?_ ?_) <;> (intro hc; (try simp only [zB, zC, reduceCtorEq] at hc); (try (exfalso; first | contradiction | omega)))))
 | ((with_reducible show callN _ _ _ _ _ _ _ _ _ _); first
 | (refine callN_q (k := 98) fnok_98 (pv_p _ ho) ?_ ?_))
 | ((fail_if_success (with_reducible show AW _ _ _ _)); simp (maxSteps := 2000000) only [go_sem, reduceIte, reduceCtorEq, xA, xL, xD, xE, xM, xS, xB, Tryz.f97])
 | ((with_reducible refine hK _ ?_); clear hK K))
theorem ccon_p (k : Nat) (o : Nat → OpS) (hk : k ≤ 9223372036854775807) (ho : ∀ i, i < k → (o i).f.Ok) : CallsP Tryz.prog 96 [.one (.lst 16 k (oprF o)), .one (.g (.func (.func 97) #[] #[]))] (.t (.one (.g (.bool (badB k o))))) := by
  refine CallsP_of Tryz.func96 rfl (by rw [Tryz.ntmps96]; simp) ?_
  simp only [Tryz.ntmps96, zM, PT.tv, argEnv, Nat.zero_add, Nat.reduceAdd]
  repeat' (first
 | ((with_reducible show AW _ _ _ _); first
 | (with_reducible first | refine aS (fun K hK => ?_) | refine aI ?_ | refine aX ?_ | refine aT ?_ | refine aC ?_ | refine aB ?_)
 | (first
 | (with_reducible first | refine aP 0 [0,1] ?_ | refine aP (ops := #[⟨some 5, _, _, _, _, _⟩, _, _, _, _]) 1 [0,1] ?_ | refine aP (ops := #[⟨some 6, _, _, _, _, _⟩, _, _]) 1 [0,1] ?_ | refine aP 2 [0,1,7,8] ?_ | refine aP 3 [0,1,7,8] ?_ | refine aP 4 [0,1,5,7,8] ?_ | refine aP 5 [5] ?_ | refine aP 6 [0,1,7,8] ?_ | refine aP 7 [] ?_))
 | ((with_reducible show AW _ (Code.loop _) _ _); first
 | ((with_reducible refine aL (c := (Code.seq (Code.region 2 _ _) _)) (ι := Nat) [0,1,7] (fun j => [(8, iA .i64 (j : Int))]) (fun j => []) (fun j => j ≤ k ∧ (∀ j', j' < j → opB (o j') = true)) (fun j => k - j) 0 ?lg2 ?l12 ?l22 ?li2 ?lr2); (case' lg2 => rintro j _); (case' li2 => try (exact ⟨Nat.zero_le _, fun i hi => absurd hi (Nat.not_lt_zero _)⟩)); (case' lr2 => rintro j ⟨hj, haj⟩ KR hR2; simp only [keepE, hupd, hset, lk, if_true, if_false, xE, reduceIte, zN]))))
 | ((first | (with_reducible refine And.intro ?_ ?_) | (with_reducible refine Need.mk ?_)); focus (first | exact True.intro | (with_reducible assumption) | omega | (refine ⟨?_, ?_⟩ <;> omega) | (intro _; first | exact True.intro | (with_reducible assumption) | omega) | (intros; (repeat' (first | exact True.intro | omega | (with_reducible assumption) | (with_reducible refine And.intro ?_ ?_))); done) | (simp (disch := omega) only [Bool.and_eq_true, Bool.or_eq_true, decide_eq_true_eq, bne_iff_ne, ne_eq] at *; first | done | omega | (intros; omega)) | (simp; done) | (simp; omega) | (simp +contextual; done) | (intro h; rw [h]; rfl) | (intro hq; have hq2 := hq; simp only [Bool.and_eq_true, Bool.or_eq_true, Bool.not_eq_true', Bool.not_not, Bool.not_eq_false', decide_eq_true_eq, decide_eq_false_iff_not] at hq2; (repeat' (first | exact hq | (with_reducible refine And.intro ?_ ?_) | omega | (simp_all; done))); done) | (intros; simp_all; done)))
 | (with_reducible refine retK_n ?_)
 | (with_reducible refine retK_n' ?_)
 | (with_reducible refine retH_n rfl rfl rfl ?_)
 | (with_reducible refine retH_n' rfl rfl rfl ?_)
 | ((with_reducible show condN _ _ _ _ _ _); first
 | ((with_reducible refine condN_t ?_ ?_) <;> (intro hc; (try simp only [zB, zC, reduceCtorEq] at hc); (try (exfalso; first | contradiction | omega)))))
 | ((with_reducible show callN _ _ _ _ _ _ _ _ _ _); first
 | (refine callN_q (k := 97) fnok_97 (cbad_p _ (ho _ (by omega))) ?_ ?_)
 | ((refine callN_i (k := 101) Tryz.func101 rfl fnok_101 (by rw [Tryz.ntmps101]; simp) ?_ ?_ (fun K hK => ?_)); (focus (first | exact True.intro | (with_reducible assumption) | omega | (refine ⟨?_, ?_⟩ <;> omega) | (intro _; first | exact True.intro | (with_reducible assumption) | omega) | (intros; (repeat' (first | exact True.intro | omega | (with_reducible assumption) | (with_reducible refine And.intro ?_ ?_))); done) | (simp (disch := omega) only [Bool.and_eq_true, Bool.or_eq_true, decide_eq_true_eq, bne_iff_ne, ne_eq] at *; first | done | omega | (intros; omega)) | (simp; done) | (simp; omega) | (simp +contextual; done) | (intro h; rw [h]; rfl) | (intro hq; have hq2 := hq; simp only [Bool.and_eq_true, Bool.or_eq_true, Bool.not_eq_true', Bool.not_not, Bool.not_eq_false', decide_eq_true_eq, decide_eq_false_iff_not] at hq2; (repeat' (first | exact hq | (with_reducible refine And.intro ?_ ?_) | omega | (simp_all; done))); done) | (intros; simp_all; done))); (focus (first | (simp [lsF]; done) | assumption | exact ⟨Nat.ne_of_lt (Nat.lt_succ_self _), by assumption⟩)); simp only [Tryz.ntmps101, List.map_cons, List.map_nil, List.nil_append, List.cons_append, List.append_nil, LV.tv, argEnv, Nat.zero_add, Nat.reduceAdd]))
 | ((with_reducible show callDN _ _ _ _ _ _ _ _ _ _ _ _ _); first
 | (refine callDN_q (k := 97) fnok_97 (cbad_p _ (ho _ (by omega))) ?_ ?_))
 | ((with_reducible show callDGN _ _ _ _ _ _ _ _ _ _ _ _ _); first
 | (refine callDGN_q (k := 97) fnok_97 (fun hg => cbad_p _ (ho _ (by omega))) ?_ ?_))
 | ((with_reducible show callGN _ _ _ _ _ _ _ _ _ _); first
 | (refine callGN_q (k := 97) fnok_97 (fun hg => cbad_p _ (ho _ (by omega))) ?_ ?_))
 | ((with_reducible refine hR2 _ (j + 1) ?_); (try clear hR2 KR))
 | ((with_reducible refine Told.mk ?_); simp only [go_sem, reduceIte, reduceCtorEq, xA, xL, xD, xE, xM, xS, xB] <;> (first | exact True.intro | (((try simp (disch := omega) only [seaWrap, Int.natCast_add, Int.cast_ofNat_Int, and_true, true_and, and_self]); (repeat' (first | exact True.intro | omega | rfl | (with_reducible assumption) | (with_reducible refine And.intro ?_ ?_) | (exact all_succ (by assumption) (by assumption)) )); done)) | (refine Stuck.out ?_)))
 | ((fail_if_success (with_reducible show AW _ _ _ _)); simp (maxSteps := 2000000) only [go_sem, reduceIte, reduceCtorEq, xA, xL, xD, xE, xM, xS, xB, Tryz.f96, Tryz.f101])
 | ((fail_if_success (with_reducible show AW _ _ _ _)); simp (disch := omega) only [seaWrap, seaDiv, seaMod])
 | ((with_reducible refine hK _ ?_); clear hK K)
 | (with_reducible apply_assumption -exfalso only [*]))
  all_goals first
    | (refine Eq.trans ?_ (bad_t (by omega) (by assumption)); have h0 : (j : Int) ≥ 0 := (by omega); simp [h0]; done)
    | (refine Eq.trans ?_ (bad_f (by omega) haj); simp; done)
    | skip
theorem cval_f (x : CaS) (hx : x.Ok) (hv : vsB x.S x.m = false) : CallsP Tryz.prog 65 [.one (.lst 9 x.n (featF x.f)), .one (.lst 2 x.m (stF x.S)), .one (.lst 1 x.mo (ptF x.O))] (.t (.one (.g (.int .i64 (cvE x))))) := by
  refine CallsP_of Tryz.func65 rfl (by rw [Tryz.ntmps65]; simp) ?_
  simp only [Tryz.ntmps65, zM, PT.tv, argEnv, Nat.zero_add, Nat.reduceAdd]
  repeat' (first
 | ((with_reducible show callGN _ _ false _ _ _ _ _ _ _); (with_reducible refine callGN_sq (fun h => by cases h) (fun _ => ?_)))
 | ((with_reducible show callGK _ _ false _ _ _ _); (with_reducible refine callGK_s (fun h => by cases h) (fun _ => ?_)))
 | ((with_reducible show AW _ _ _ _); first
 | (with_reducible first | refine aS (fun K hK => ?_) | refine aI ?_ | refine aX ?_ | refine aT ?_ | refine aC ?_ | refine aB ?_)
 | (first
 | (with_reducible first | refine aP 0 [0,1,2] ?_ | refine aP 1 [0,1,2] ?_ | refine aP 2 [0,1,2,8] ?_ | refine aP 3 [] ?_ | refine aP 4 [0,1,2] ?_ | refine aP 5 [1,2,9] ?_ | refine aP 6 [1,9,33,34,35] ?_ | refine aP 7 [1,9,33,34,35] ?_ | refine aP 8 [1,9,11,33,34,35] ?_ | refine aP 9 [] ?_ | refine aP 10 [1,9,11,33,34,35] ?_ | refine aP 11 [1,9,33,34,35] ?_ | refine aP 12 [1,9] ?_ | refine aP 13 [] ?_ | refine aP 14 [] ?_)))
 | ((first | (with_reducible refine And.intro ?_ ?_) | (with_reducible refine Need.mk ?_)); focus (first | exact True.intro | (with_reducible assumption) | omega | (refine ⟨?_, ?_⟩ <;> omega) | (intro _; first | exact True.intro | (with_reducible assumption) | omega) | (intros; (repeat' (first | exact True.intro | omega | (with_reducible assumption) | (with_reducible refine And.intro ?_ ?_))); done) | (simp (disch := omega) only [Bool.and_eq_true, Bool.or_eq_true, decide_eq_true_eq, bne_iff_ne, ne_eq] at *; first | done | omega | (intros; omega)) | (simp; done) | (simp; omega) | (simp +contextual; done) | (intro h; rw [h]; rfl) | (intro hq; have hq2 := hq; simp only [Bool.and_eq_true, Bool.or_eq_true, Bool.not_eq_true', Bool.not_not, Bool.not_eq_false', decide_eq_true_eq, decide_eq_false_iff_not] at hq2; (repeat' (first | exact hq | (with_reducible refine And.intro ?_ ?_) | omega | (simp_all; done))); done) | (intros; simp_all; done)))
 | (with_reducible refine retK_n ?_)
 | (with_reducible refine retK_n' ?_)
 | (with_reducible refine retH_n rfl rfl rfl ?_)
 | (with_reducible refine retH_n' rfl rfl rfl ?_)
 | ((with_reducible show condN _ _ _ _ _ _); first
 | ((with_reducible refine condN_t ?_ ?_) <;> (intro hc; (try simp only [zB, zC, reduceCtorEq] at hc); (try (exfalso; first | contradiction | omega)))))
 | ((with_reducible show callN _ _ _ _ _ _ _ _ _ _); first
 | (refine callN_q (k := 95) fnok_95 (frdy_f x.S x.m hx.m hx.q hv) ?_ ?_))
 | ((with_reducible show callGN _ _ _ _ _ _ _ _ _ _); first
 | (refine callGN_q (k := 89) fnok_89 (fun hg => flist_p x.n x.f hx.n hx.f) ?_ ?_)
 | (refine callGN_q (k := 96) fnok_96 (fun hg => ccon_p (x.O i).k (x.O i).o (hx.k i (by omega)) (hx.o i (by omega))) ?_ ?_))
 | ((fail_if_success (with_reducible show AW _ _ _ _)); simp (maxSteps := 2000000) only [go_sem, reduceIte, reduceCtorEq, xA, xL, xD, xE, xM, xS, xB, Tryz.f65, stF0, stF1, ptF0])
 | ((fail_if_success (with_reducible show AW _ _ _ _)); simp (disch := omega) only [seaWrap, seaDiv, seaMod])
 | ((with_reducible refine hK _ ?_); clear hK K))
  all_goals (first | exact cv_v hv | skip)
theorem cval_t (x : CaS) (hx : x.Ok) (hv : vsB x.S x.m = true) : CallsP Tryz.prog 65 [.one (.lst 9 x.n (featF x.f)), .one (.lst 2 x.m (stF x.S)), .one (.lst 1 x.mo (ptF x.O))] (.t (.one (.g (.int .i64 (cvE x))))) := by
  have hxn := hx.n
  have hxm := hx.m
  have hxo := hx.mo
  have hm200 := (of_decide_eq_true hv).1
  have mk0 : True := trivial
  have mk1 : True := trivial
  refine CallsP_of Tryz.func65 rfl (by rw [Tryz.ntmps65]; simp) ?_
  simp only [Tryz.ntmps65, zM, PT.tv, argEnv, Nat.zero_add, Nat.reduceAdd]
  repeat' (first
 | ((with_reducible show AW _ _ _ _); first
 | (with_reducible first | refine aS (fun K hK => ?_) | refine aI ?_ | refine aX ?_ | refine aT ?_ | refine aC ?_ | refine aB ?_)
 | (first
 | (with_reducible first | refine aP 0 [0,1,2] ?_ | refine aP 1 [0,1,2] ?_ | refine aP 2 [0,1,2,8] ?_ | refine aP 3 [] ?_ | refine aP 4 [0,1,2] ?_ | refine aP 5 [1,2,9] ?_ | refine aP 6 [1,9,33,34,35] ?_ | refine aP 7 [1,9,33,34,35] ?_ | refine aP 8 [1,9,11,33,34,35] ?_ | refine aP 9 [] ?_ | refine aP 10 [1,9,11,33,34,35] ?_ | refine aP 11 [1,9,33,34,35] ?_ | refine aP 12 [1,9] ?_ | refine aP 13 [] ?_ | refine aP 14 [] ?_))
 | ((with_reducible show AW _ (Code.loop _) _ _); first
 | ((with_reducible refine aL (c := (Code.seq (Code.region 6 _ _) _)) (ι := Nat) [1,33,34] (fun i => [(9, iA .i64 ((x.n : Int) + (smK x.O i : Int))), (35, iA .i64 (i : Int))]) (fun i => []) (fun i => i ≤ x.mo ∧ (∀ i', i' < i → opsB (x.O i').k (x.O i').o = true)) (fun i => x.mo - i) 0 ?lg6 ?l16 ?l26 ?li6 ?lr6); (case' lg6 => rintro i _); (case' li6 => try (exact ⟨Nat.zero_le _, fun i hi => absurd hi (Nat.not_lt_zero _)⟩)); (case' lr6 => rintro i ⟨hi, hai⟩ KR hR6; simp only [keepE, hupd, hset, lk, if_true, if_false, xE, reduceIte, zN, stF0, stF1, ptF0]))))
 | ((first | (with_reducible refine And.intro ?_ ?_) | (with_reducible refine Need.mk ?_)); focus (first | exact True.intro | (with_reducible assumption) | omega | (refine ⟨?_, ?_⟩ <;> omega) | (intro _; first | exact True.intro | (with_reducible assumption) | omega) | (intros; (repeat' (first | exact True.intro | omega | (with_reducible assumption) | (with_reducible refine And.intro ?_ ?_))); done) | (simp (disch := omega) only [Bool.and_eq_true, Bool.or_eq_true, decide_eq_true_eq, bne_iff_ne, ne_eq] at *; first | done | omega | (intros; omega)) | (simp; done) | (simp; omega) | (simp +contextual; done) | (intro h; rw [h]; rfl) | (intro hq; have hq2 := hq; simp only [Bool.and_eq_true, Bool.or_eq_true, Bool.not_eq_true', Bool.not_not, Bool.not_eq_false', decide_eq_true_eq, decide_eq_false_iff_not] at hq2; (repeat' (first | exact hq | (with_reducible refine And.intro ?_ ?_) | omega | (simp_all; done))); done) | (intros; simp_all; done)))
 | (with_reducible refine retK_n ?_)
 | (with_reducible refine retK_n' ?_)
 | (with_reducible refine retH_n rfl rfl rfl ?_)
 | (with_reducible refine retH_n' rfl rfl rfl ?_)
 | ((with_reducible show condN _ _ _ _ _ _); first
 | ((with_reducible refine condN_t ?_ ?_) <;> (intro hc; (try simp only [zB, zC, reduceCtorEq] at hc); ((try (clear mk0; have hmo : (x.mo : Int) = x.m := hc.2; have hfe := hc.1.2; have hfn := (of_decide_eq_true hfe).1)); (try (clear mk1; have hsm := smK_le hai; have hxk := hx.k i (by omega)))); (try (exfalso; first | contradiction | omega)))))
 | ((with_reducible show callN _ _ _ _ _ _ _ _ _ _); first
 | (refine callN_q (k := 95) fnok_95 (frdy_t x.S x.m hx.m hx.q hv) ?_ ?_))
 | ((with_reducible show callGN _ _ _ _ _ _ _ _ _ _); first
 | (refine callGN_q (k := 89) fnok_89 (fun hg => flist_p x.n x.f hx.n hx.f) ?_ ?_)
 | (refine callGN_q (k := 96) fnok_96 (fun hg => ccon_p (x.O i).k (x.O i).o (hx.k i (by omega)) (hx.o i (by omega))) ?_ ?_))
 | ((with_reducible refine hR6 _ (i + 1) ?_); (try clear hR6 KR))
 | ((with_reducible refine Told.mk ?_); simp only [go_sem, reduceIte, reduceCtorEq, xA, xL, xD, xE, xM, xS, xB, stF0, stF1, ptF0] <;> (first | exact True.intro | (((try simp (disch := omega) only [seaWrap, Int.natCast_add, Int.cast_ofNat_Int, and_true, true_and, and_self]); (repeat' (first | exact True.intro | omega | rfl | (with_reducible assumption) | (with_reducible refine And.intro ?_ ?_) | (exact all_succ (by assumption) (by assumption)) | ((exact all_succ (by assumption) (ops_t1 hc))) | ((rw [smK_s]; omega)) | ((simp only [smK]; omega)))); done)) | (refine Stuck.out ?_)))
 | ((fail_if_success (with_reducible show AW _ _ _ _)); simp (maxSteps := 2000000) only [go_sem, reduceIte, reduceCtorEq, xA, xL, xD, xE, xM, xS, xB, Tryz.f65, stF0, stF1, ptF0])
 | ((fail_if_success (with_reducible show AW _ _ _ _)); simp (disch := omega) only [seaWrap, seaDiv, seaMod])
 | ((with_reducible refine hK _ ?_); clear hK K)
 | (with_reducible apply_assumption -exfalso only [*]))
  all_goals first
    | exact cv_h hc
    | exact cv_o (by omega) hc
    | (have e := cv_g (x := x) hv ⟨hfe, hmo⟩ (by omega) hi hai; have e2 := e.2; subst e2; first | exact cv_2 e.1 hc | exact cv_0 e.1 hc)
    | skip
theorem cval_p (x : CaS) (hx : x.Ok) : CallsP Tryz.prog 65 [.one (.lst 9 x.n (featF x.f)), .one (.lst 2 x.m (stF x.S)), .one (.lst 1 x.mo (ptF x.O))] (.t (.one (.g (.int .i64 (cvE x))))) := by
  cases hv : vsB x.S x.m with
  | false => exact cval_f x hx hv
  | true => exact cval_t x hx hv
end Go.Proofs.YtmnejmpjmniiiaaGreatDoor
