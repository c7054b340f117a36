/- Part 11 of 16: contracts of functions and plain laws for the root text. No condition. -/
import Derived.Test.YtdhgiklbkmkblaaGreatK01
import Derived.Test.YtdhgiklbkmkblaaGreatK02
import Derived.Test.YtdhgiklbkmkblaaGreatK03
import Derived.Test.YtdhgiklbkmkblaaGreatK04
import Derived.Test.YtdhgiklbkmkblaaGreatK05
import Derived.Test.YtdhgiklbkmkblaaGreatK06
import Derived.Test.YtdhgiklbkmkblaaGreatK07
import Derived.Test.YtdhgiklbkmkblaaGreatK08
import Derived.Test.YtdhgiklbkmkblaaGreatK09
import Derived.Test.YtdhgiklbkmkblaaGreatK10
import Derived.Ground.Names2Prog
import Derived.Shelf.Spec.SlicesInsert
import Derived.Shelf.Spec.SlicesInsertGrow
import Derived.Test.YtdhgiklbkmkblaaGreatProg
import Derived.Laws.Tables
import Derived.Laws.IdiomCopy
import Derived.Laws.AppendOwn
import Derived.Test.YtdhgiklbkmkblaaGreatRows
import Derived.WalkKit
import Derived.ProofKit
import Derived.Lib.SmallJoins
import Derived.Deep.Strs
import Derived.Deep.SlicePairs
set_option linter.unusedVariables false
set_option linter.unusedSimpArgs false
set_option maxRecDepth 100000
set_option maxHeartbeats 4000000
namespace Go.Proofs.YtdhgiklbkmkblaaGreat
open Go.RowKit Go.Sea
open Nat renaming reduceAdd → xA, reduceLT → xL, reduceLeDiff → xD, reduceEqDiff → xE, reduceMul → xM, reduceSub → xS, reduceBEq → xB
theorem bo_23 : boD Tryz.prog 23 = false := by kernel_rfl
theorem eq_23 : eqD Tryz.prog 23 = some (true, [.int .i64, .int .i64, .int .i64, .int .i64, .int .i64, .int .i64, .int .i64]) := by kernel_rfl
theorem fnok_48 : fnOk Tryz.prog 48 = true := by kernel_rfl
theorem fnok_49 : fnOk Tryz.prog 49 = true := by kernel_rfl
theorem fnok_69 : fnOk Tryz.prog 69 = true := by kernel_rfl
theorem fnok_70 : fnOk Tryz.prog 70 = true := by kernel_rfl
theorem fnok_72 : fnOk Tryz.prog 72 = true := by kernel_rfl
theorem fnok_73 : fnOk Tryz.prog 73 = true := by kernel_rfl
theorem fnok_85 : fnOk Tryz.prog 85 = true := by kernel_rfl
theorem fnok_86 : fnOk Tryz.prog 86 = true := by kernel_rfl
theorem fnok_87 : fnOk Tryz.prog 87 = true := by kernel_rfl
theorem of_27_0 : offOf Tryz.prog 27 0 = some 0 := by kernel_rfl
theorem of_27_1 : offOf Tryz.prog 27 1 = some 1 := by kernel_rfl
theorem of_27_2 : offOf Tryz.prog 27 2 = some 2 := by kernel_rfl
theorem of_27_3 : offOf Tryz.prog 27 3 = some 3 := by kernel_rfl
theorem of_27_4 : offOf Tryz.prog 27 4 = some 10 := by kernel_rfl
theorem of_27_5 : offOf Tryz.prog 27 5 = some 11 := by kernel_rfl
theorem of_27_6 : offOf Tryz.prog 27 6 = some 12 := by kernel_rfl
theorem ty_25 : tyD Tryz.prog 25 = some (false, 1) := by kernel_rfl
attribute [go_sem] bo_23 eq_23 fnok_48 fnok_49 fnok_69 fnok_70 fnok_71 fnok_72 fnok_73 fnok_85 fnok_86 fnok_87 of_27_0 of_27_1 of_27_2 of_27_3 of_27_4 of_27_5 of_27_6 ty_25
def lsI (a : Nat → Int) (i : Nat) : Int := if i = 0 then 0 else a (i - 1)
theorem lsI_s (a : Nat → Int) (i : Nat) : lsI a (i + 1) = a i := by simp [lsI]
theorem aft_ls {a : Nat → Int} {i : Nat} (h : lsI a i < a i ∧ a i ≤ 10000) (g : ∀ i', i' < i → aftO a 10001 i') : aftO a 10001 i := by
  obtain ⟨h1, h2⟩ := h
  unfold lsI at h1
  by_cases h0 : i = 0
  · rw [if_pos h0] at h1; exact ⟨by omega, by omega, fun h => by omega⟩
  · rw [if_neg h0] at h1
    have := (g (i - 1) (by omega)).1
    exact ⟨by omega, by omega, fun h => by omega⟩
theorem done_ls {q : Nat} {a : Nat → Int} {i : Nat} (hi : (i : Int) < q) (h : a i ≤ lsI a i ∨ a i > 10000) : doneB q a = false := done_f hi fun g => by
  have g1 := g.1; have g2 := g.2.1
  unfold lsI at h
  by_cases h0 : i = 0
  · rw [if_pos h0] at h; omega
  · rw [if_neg h0] at h; have := g.2.2 (by omega); omega
theorem sht_f {s : ShtS} (h : doneB s.q s.dn = false) : false = shtB s := by unfold shtB; rw [h]; rfl
theorem sht_b {s : ShtS} {b : Bool} (h : b = true ↔ (doneB s.q s.dn = true ∧ ((1 ≤ s.ch ∧ s.ch ≤ 1000) ∧ (1 ≤ s.sc ∧ s.sc ≤ 1000) ∧ (1 ≤ s.ed ∧ s.ed ≤ 1000) ∧ (1 ≤ s.cap ∧ s.cap ≤ 100000)) ∧ datB s.m = true ∧ feaB s.n s.f = true)) : b = shtB s := by
  refine Bool.eq_iff_iff.2 (h.trans ?_)
  unfold shtB
  simp only [Bool.and_eq_true, decide_eq_true_eq, and_assoc]
theorem done_i {q : Nat} {a : Nat → Int} {i : Nat} (hi : (q : Int) ≤ i) (g : ∀ i', i' < i → aftO a 10001 i') : doneB q a = true ↔ (q : Int) ≤ 200 := by rw [← done_t hi g]; exact decide_eq_true_iff
theorem seq_b {a b : ShtS} {c : Bool} (h : c = true ↔ ((a.ch = b.ch ∧ a.sc = b.sc ∧ a.ed = b.ed ∧ (a.m.A = b.m.A ∧ a.m.B = b.m.B ∧ a.m.C = b.m.C ∧ a.m.D = b.m.D ∧ a.m.E = b.m.E ∧ a.m.F = b.m.F ∧ a.m.R = b.m.R) ∧ a.cap = b.cap) ∧ eqLI a.q b.q a.dn b.dn = true ∧ eqFI a.n b.n a.f b.f = true)) : c = seqB a b := by
  refine Bool.eq_iff_iff.2 (h.trans ?_)
  unfold seqB
  simp only [Bool.and_eq_true, decide_eq_true_eq, and_assoc]
theorem sheet_p (s : ShtS) (ho : s.Ok) : CallsP Tryz.prog 34 [(shP s)] (.t (.one (.g (.bool (shtB s))))) := by
  have hq := ho.q
  have hn := ho.n
  refine CallsP_of Tryz.func34 rfl (by rw [Tryz.ntmps34]; simp) ?_
  simp only [shP, Tryz.ntmps34, zM, PT.tv, argEnv, Nat.zero_add, Nat.reduceAdd]
  repeat' (first
 | ((with_reducible show AW _ _ _ _); first
 | (with_reducible first | refine aS (fun K hK => ?_) | refine aI ?_ | refine aX ?_ | refine aT ?_ | refine aC ?_ | refine aB ?_)
 | (first
 | (with_reducible first | refine aP 0 [0] ?_ | refine aP 1 [1] ?_ | refine aP 2 [1,3] ?_ | refine aP 3 [1,3,7,8,9] ?_ | refine aP 4 [1,3,7,8,9] ?_ | refine aP 5 [1,3,5,7,8,9] ?_ | refine aP 6 [] ?_ | refine aP 7 [1,5,7,8,9] ?_ | refine aP 8 [1,3,7,8,9] ?_ | refine aP 9 [1] ?_))
 | ((with_reducible show AW _ (Code.loop _) _ _); first
 | ((with_reducible refine aL (c := (Code.seq (Code.region 3 _ _) _)) (ι := Nat) [1,7,8] (fun i => [(3, iA .i64 (lsI s.dn i)), (9, iA .i64 (i : Int))]) (fun i => []) (fun i => i ≤ s.q ∧ (∀ i', i' < i → aftO s.dn 10001 i')) (fun i => s.q - i) 0 ?lg3 ?l13 ?l23 ?li3 ?lr3); (case' lg3 => rintro i _); (case' li3 => try (exact ⟨Nat.zero_le _, fun i hi => absurd hi (Nat.not_lt_zero _)⟩)); (case' lr3 => rintro i ⟨hi, hai⟩ KR hR3; simp only [keepE, hupd, hset, lk, if_true, if_false, xE, reduceIte, zN, lsI_s]))))
 | ((first | (with_reducible refine And.intro ?_ ?_) | (with_reducible refine Need.mk ?_)); focus (first | omega | (intro _; (with_reducible assumption)) | (simp; done)))
 | (with_reducible refine retK_n ?_)
 | ((with_reducible show condN _ _ _ _ _ _); first
 | ((with_reducible refine condN_t ?_ ?_) <;> (intro hc; (try simp only [zB, zC, reduceCtorEq] at hc); (try (exfalso; contradiction)))))
 | ((with_reducible show callGN _ _ _ _ _ _ _ _ _ _); first
 | (refine callGN_q (k := 69) fnok_69 (fun hg => within_p _ _) ?_ ?_)
 | (refine callGN_q (k := 70) fnok_70 (fun hg => dat_p s.m) ?_ ?_)
 | (refine callGN_q (k := 71) fnok_71 (fun hg => flist_p _ _ ho.n ho.f) ?_ ?_))
 | ((with_reducible refine hR3 _ (i + 1) ?_); (try clear hR3 KR))
 | ((with_reducible refine Told.mk ?_); simp only [go_sem, reduceIte, reduceCtorEq, xA, xL, xD, xE, xM, xS, xB, lsI_s, intI] <;> ((((try simp (disch := omega) only [seaWrap, Int.natCast_add, Int.cast_ofNat_Int, and_true, true_and, and_self]); (repeat' (first | omega | rfl | (with_reducible refine And.intro ?_ ?_) | ((exact all_succ (by assumption) (aft_ls hc hai))))); done))))
 | ((fail_if_success (with_reducible show AW _ _ _ _)); simp (maxSteps := 2000000) only [go_sem, reduceIte, reduceCtorEq, xA, xL, xD, xE, xM, xS, xB, Tryz.f34, lsI_s, intI])
 | ((with_reducible refine hK _ ?_); clear hK K)
 | (with_reducible apply_assumption -exfalso only [*]))
  all_goals (first | (exact sht_f (done_ls (by assumption) hc)) | (refine sht_b ?_; (try rw [done_i (by assumption) hai]); simp only [Bool.and_eq_true, decide_eq_true_eq, reduceCtorEq, false_iff]; exact ⟨fun h => by (repeat' (with_reducible refine And.intro ?_ ?_)) <;> first | omega | (simp only [h]; done), fun h => by (repeat' (with_reducible refine And.intro ?_ ?_)) <;> first | omega | (simp only [h]; done)⟩))
theorem same_p (a b : ShtS) (ho : a.Ok) (ho2 : b.Ok) : CallsP Tryz.prog 37 [(shP a), (shP b)] (.t (.one (.g (.bool (seqB a b))))) := by
  refine CallsP_of Tryz.func37 rfl (by rw [Tryz.ntmps37]; simp) ?_
  simp only [shP, Tryz.ntmps37, zM, PT.tv, argEnv, Nat.zero_add, Nat.reduceAdd]
  repeat' (first
 | ((with_reducible show AW _ _ _ _); first
 | (with_reducible first | refine aS (fun K hK => ?_) | refine aT ?_)
 | (first
 | (with_reducible first | refine aP 0 [0,1] ?_ | refine aP 1 [2,3] ?_)))
 | (((with_reducible refine Need.mk ?_)); focus ((intro _; (with_reducible assumption))))
 | (with_reducible refine retK_n ?_)
 | ((with_reducible show callGN _ _ _ _ _ _ _ _ _ _); first
 | (refine callGN_q (k := 72) fnok_72 (fun hg => eqI_p _ _ _ _ ho.q ho2.q) ?_ ?_)
 | (refine callGN_q (k := 73) fnok_73 (fun hg => eqf_p _ _ _ _ ho.n ho2.n ho.f ho2.f) ?_ ?_))
 | ((fail_if_success (with_reducible show AW _ _ _ _)); simp (maxSteps := 2000000) only [go_sem, reduceIte, reduceCtorEq, xA, xL, xD, xE, xM, xS, xB, Tryz.f37, Go.Sea.cmpS])
 | ((with_reducible refine hK _ ?_); clear hK K))
  all_goals ((refine seq_b ?_; simp only [Bool.and_eq_true, decide_eq_true_eq, reduceCtorEq, false_iff, beq_iff_eq]; exact ⟨fun h => by simp only [h, and_self], fun h => by simp only [h, and_self]⟩))
theorem rsame_p (a b : ShtS) (ho : a.Ok) (ho2 : b.Ok) : CallsP Tryz.prog 14 [(shP a), (shP b)] (.t (.one (.g (.bool (seqB a b))))) := by
  refine CallsP_of Tryz.func14 rfl (by rw [Tryz.ntmps14]; simp) ?_
  simp only [shP, Tryz.ntmps14, zM, PT.tv, argEnv, Nat.zero_add, Nat.reduceAdd]
  repeat' (first
 | ((with_reducible show AW _ _ _ _); first
 | (with_reducible first | refine aS (fun K hK => ?_) | refine aT ?_)
 | (first
 | (with_reducible first | refine aP 0 [0,1] ?_ | refine aP 1 [2,3] ?_ | refine aP 2 [2,3,5] ?_ | refine aP 3 [2,3,5,6] ?_)))
 | (((with_reducible refine Need.mk ?_)); focus (exact True.intro))
 | (with_reducible refine retK_n ?_)
 | ((with_reducible show callN _ _ _ _ _ _ _ _ _ _); first
 | (refine callN_q (k := 48) fnok_48 (ints8_p _ _ _ _ ho.q ho2.q) ?_ ?_)
 | (refine callN_q (k := 49) fnok_49 (samel_p _ _ _ _ ho.n ho2.n ho.f ho2.f) ?_ ?_))
 | ((fail_if_success (with_reducible show AW _ _ _ _)); simp (maxSteps := 2000000) only [go_sem, reduceIte, reduceCtorEq, xA, xL, xD, xE, xM, xS, xB, Tryz.f14, Go.Sea.cmpS])
 | ((with_reducible refine hK _ ?_); clear hK K))
  all_goals ((refine seq_b ?_; simp only [Bool.and_eq_true, decide_eq_true_eq, reduceCtorEq, false_iff, beq_iff_eq]; exact ⟨fun h => by simp only [h, and_self], fun h => by simp only [h, and_self]⟩))
end Go.Proofs.YtdhgiklbkmkblaaGreat
set_option maxRecDepth 100000
set_option maxHeartbeats 4000000
namespace Go.Proofs.YtdhgiklbkmkblaaGreat
open Go.RowKit Go.Sea
open Nat renaming reduceAdd → xA, reduceLT → xL, reduceLeDiff → xD, reduceEqDiff → xE, reduceMul → xM, reduceSub → xS, reduceBEq → xB
theorem fnok_90 : fnOk Tryz.prog 90 = true := by kernel_rfl
theorem fnok_91 : fnOk Tryz.prog 91 = true := by kernel_rfl
attribute [go_sem] fnok_90 fnok_91
theorem ipC_len (c : Nat → IV) : ∀ n k, (ipCells c n k).length = n
  | 0, _ => rfl
  | n + 1, k => by simp [ipCells, ipC_len c n (k + 1)]
theorem ipC_get (c : Nat → IV) : ∀ n k o, o < n → (ipCells c n k)[o]? = some (.iv (c (k + o)))
  | n + 1, k, 0, _ => by simp [ipCells]
  | n + 1, k, o + 1, h => by
    simp only [ipCells, List.getElem?_cons_succ]
    rw [ipC_get c n (k + 1) o (by omega), show k + 1 + o = k + (o + 1) by omega]
theorem lstC_get (f : Nat → Nat → IV) (E : Nat) : ∀ n k i o, i < n → o < E → (lstC f E n k)[i * E + o]? = some (.iv (f (k + i) o))
  | n + 1, k, 0, o, _, ho => by
    simp only [lstC, Nat.zero_mul, Nat.zero_add]
    rw [List.getElem?_append_left (by rw [ipC_len]; exact ho), ipC_get _ _ _ _ ho, Nat.zero_add]; rfl
  | n + 1, k, i + 1, o, h, ho => by
    simp only [lstC]
    rw [show (i + 1) * E + o = E + (i * E + o) by rw [Nat.add_mul]; omega, List.getElem?_append_right (by rw [ipC_len]; omega), ipC_len, Nat.add_sub_cancel_left, lstC_get f E n (k + 1) i o (by omega) ho, show k + 1 + i = k + (i + 1) by omega]
end Go.Proofs.YtdhgiklbkmkblaaGreat
set_option maxRecDepth 100000
set_option maxHeartbeats 4000000
namespace Go.Proofs.YtdhgiklbkmkblaaGreat
open Go.RowKit Go.Sea
open Nat renaming reduceAdd → xA, reduceLT → xL, reduceLeDiff → xD, reduceEqDiff → xE, reduceMul → xM, reduceSub → xS, reduceBEq → xB
theorem fnok_88 : fnOk Tryz.prog 88 = true := by kernel_rfl
theorem fnok_89 : fnOk Tryz.prog 89 = true := by kernel_rfl
attribute [go_sem] fnok_129 fnok_88 fnok_89
theorem rnot_f1 {N : NotS} {i : Nat} (hi : (i : Int) < N.n) (h : partB (N.p i) N.nu = false ∨ (i : Int) > 0 ∧ (N.p i).ch ≤ (N.p (i - 1)).ch) : false = notB N := (decide_eq_false fun g => by
  have g1 := g.2 i (by omega)
  rcases h with h | h
  · rw [g1.2] at h; cases h
  · have := g1.1 (by omega); omega).symm
theorem rtime_p (t : Int) : CallsP Tryz.prog 88 [.one (.g (.int .i64 t))] (.t (.one (.g (.bool (decide (0 ≤ t ∧ t ≤ 10000000)))))) := by
  refine CallsP_of Tryz.func88 rfl (by rw [Tryz.ntmps88]; simp) ?_
  simp only [Tryz.ntmps88, zM, PT.tv, argEnv, Nat.zero_add, Nat.reduceAdd]
  repeat' (first
 | ((with_reducible show AW _ _ _ _); first
 | (with_reducible first | refine aS (fun K hK => ?_) | refine aT ?_)
 | (first
 | (with_reducible first | refine aP 0 [0] ?_ | refine aP 1 [0] ?_)))
 | (with_reducible refine retK_n ?_)
 | ((fail_if_success (with_reducible show AW _ _ _ _)); simp (maxSteps := 2000000) only [go_sem, reduceIte, reduceCtorEq, xA, xL, xD, xE, xM, xS, xB, Tryz.f88])
 | ((with_reducible refine hK _ ?_); clear hK K))
  all_goals ((try refine Bool.eq_iff_iff.2 ?_); (simp only [Bool.and_eq_true, Bool.or_eq_true, Bool.not_eq_true', decide_eq_true_eq, decide_eq_false_iff_not, bne_iff_ne, beq_iff_eq, ne_eq, ge_iff_le, gt_iff_lt, cond_eq_ite, iff_self, eq_self]; done))
theorem rpart_p (p : PartS) (nu : Int) (hp : p.Ok) : CallsP Tryz.prog 89 [.agg [.g (.int .i64 p.ch), .lst 1 p.q (intI p.a), .lst 16 p.k (oprF p.o)], .one (.g (.int .i64 nu))] (.t (.one (.g (.bool (partB p nu))))) := by
  have hpq := hp.q
  have hpk := hp.k
  refine CallsP_of Tryz.func89 rfl (by rw [Tryz.ntmps89]; simp) ?_
  simp only [Tryz.ntmps89, zM, PT.tv, argEnv, Nat.zero_add, Nat.reduceAdd]
  repeat' (first
 | ((with_reducible show AW _ _ _ _); first
 | (with_reducible first | refine aS (fun K hK => ?_) | refine aI ?_ | refine aX ?_ | refine aT ?_ | refine aC ?_ | refine aB ?_)
 | (first
 | (with_reducible first | refine aP 0 [0,1] ?_ | refine aP 1 [1,2] ?_ | refine aP 2 [] ?_ | refine aP 3 [1,2] ?_ | refine aP 4 [1,2,5] ?_ | refine aP 5 [1,2,5] ?_)
 | ((with_reducible refine aR (c := Code.region 6 _ true) [1,2,5] ?_); (with_reducible refine aD ?_ ?_ ?_ ?_); (focus kernel_rfl); (focus kernel_rfl); (focus kernel_rfl))
 | (with_reducible first | refine aP 7 [] ?_ | refine aP 8 [2] ?_ | refine aP 9 [2,6] ?_ | refine aP 10 [2,6] ?_ | refine aP 11 [2,6] ?_ | refine aP 12 [] ?_ | refine aP 13 [] ?_))
 | ((with_reducible show AW _ (Code.loop _) _ _); first
 | ((with_reducible refine aL (c := (Code.seq (Code.seq (Code.region 4 _ _) _) _)) (ι := Nat) [1,2] (fun i => [(5, iA .i64 (i : Int))]) (fun i => []) (fun i => i ≤ p.q ∧ (∀ i', i' < i → aftO p.a nu i')) (fun i => p.q - i) 0 ?lg4 ?l14 ?l24 ?li4 ?lr4); (case' lg4 => rintro i _); (case' li4 => try (exact ⟨Nat.zero_le _, fun i hi => absurd hi (Nat.not_lt_zero _)⟩)); (case' lr4 => rintro i ⟨hi, hai⟩ KR hR4; simp only [keepE, hupd, hset, lk, if_true, if_false, xE, reduceIte, zN]))
 | ((with_reducible refine aL (c := (Code.seq (Code.seq (Code.region 9 _ _) _) _)) (ι := Nat) [2] (fun j => [(6, iA .i64 (j : Int))]) (fun j => []) (fun j => j ≤ p.k ∧ (∀ j', j' < j → opB (p.o j') = true)) (fun j => p.k - j) 0 ?lg9 ?l19 ?l29 ?li9 ?lr9); (case' lg9 => rintro j _); (case' li9 => try (exact ⟨Nat.zero_le _, fun i hi => absurd hi (Nat.not_lt_zero _)⟩)); (case' lr9 => rintro j ⟨hj, haj⟩ KR hR9; simp only [keepE, hupd, hset, lk, if_true, if_false, xE, reduceIte, zN]))))
 | ((first | (with_reducible refine And.intro ?_ ?_) | (with_reducible refine Need.mk ?_)); focus (first | exact True.intro | omega | (intros; (repeat' (first | omega | (with_reducible refine And.intro ?_ ?_))); done) | (simp; done) | (simp; omega)))
 | (with_reducible refine retK_n ?_)
 | ((with_reducible show condN _ _ _ _ _ _); first
 | ((with_reducible refine condN_t ?_ ?_) <;> (intro hc; (try simp only [zB, zC, reduceCtorEq] at hc); (try (exfalso; contradiction)))))
 | ((with_reducible refine And.intro ?_ ?_); focus ((with_reducible show chkR _ _ _ = true); kernel_rfl))
 | ((with_reducible show callN _ _ _ _ _ _ _ _ _ _); first
 | (refine callN_q (k := 129) fnok_129 (rOp_p _ (hp.o _ (by omega))) ?_ ?_))
 | ((with_reducible refine hR4 _ (i + 1) ?_); (try clear hR4 KR))
 | ((with_reducible refine hR9 _ (j + 1) ?_); (try clear hR9 KR))
 | ((with_reducible refine Told.mk ?_); simp only [go_sem, reduceIte, reduceCtorEq, xA, xL, xD, xE, xM, xS, xB, intI] <;> ((((try simp (disch := omega) only [seaWrap, Int.natCast_add, Int.cast_ofNat_Int, and_true, true_and, and_self]); (repeat' (first | omega | (with_reducible refine And.intro ?_ ?_) | (exact all_succ (by assumption) (by assumption)) | ((exact all_succ (by assumption) ⟨by omega, by omega, fun h0 => by omega⟩)))); done))))
 | ((fail_if_success (with_reducible show AW _ _ _ _)); simp (maxSteps := 2000000) only [go_sem, reduceIte, reduceCtorEq, xA, xL, xD, xE, xM, xS, xB, Tryz.f89, intI])
 | ((fail_if_success (with_reducible show AW _ _ _ _)); simp (disch := omega) only [seaWrap, seaDiv, seaMod])
 | ((with_reducible refine hK _ ?_); clear hK K)
 | (with_reducible apply_assumption -exfalso only [*]))
  all_goals (first | exact part_f0 (by omega) | exact part_f1 (by assumption) (fun g => by have g2 := g.2.2; have := g.1; have := g.2.1; omega) | exact part_f2 (by assumption) (by assumption) | exact part_t (by omega) (by assumption) hai (by assumption) haj)
theorem rNot_p (N : NotS) (ho : N.Ok) : CallsP Tryz.prog 45 [(noP N)] (.t (.one (.g (.bool (notB N))))) := by
  have hnn := ho.n
  refine CallsP_of Tryz.func45 rfl (by rw [Tryz.ntmps45]; simp) ?_
  simp only [noP, Tryz.ntmps45, zM, PT.tv, argEnv, Nat.zero_add, Nat.reduceAdd]
  repeat' (first
 | ((with_reducible show AW _ _ _ _); first
 | (with_reducible first | refine aS (fun K hK => ?_) | refine aI ?_ | refine aX ?_ | refine aT ?_ | refine aC ?_ | refine aB ?_)
 | (first
 | (with_reducible first | refine aP 0 [0] ?_ | refine aP 1 [1] ?_ | refine aP 2 [] ?_ | refine aP 3 [1] ?_ | refine aP 4 [1] ?_ | refine aP 5 [] ?_ | refine aP 6 [1] ?_ | refine aP 7 [] ?_ | refine aP 8 [1] ?_ | refine aP 9 [1] ?_ | refine aP 10 [] ?_ | refine aP 11 [1] ?_ | refine aP 12 [] ?_ | refine aP 13 [1] ?_ | refine aP 14 [1,3] ?_ | refine aP 15 [1,3] ?_)
 | ((with_reducible refine aR (c := Code.region 16 _ true) [1,3] ?_); (with_reducible refine aD ?_ ?_ ?_ ?_); (focus kernel_rfl); (focus kernel_rfl); (focus kernel_rfl))
 | (with_reducible first | refine aP 17 [] ?_ | refine aP 18 [] ?_)))
 | ((first | (with_reducible refine And.intro ?_ ?_) | (with_reducible refine Need.mk ?_)); focus (first | exact True.intro | omega | (intro _; (with_reducible assumption)) | (intros; (repeat' (first | omega | (with_reducible refine And.intro ?_ ?_))); done) | (simp; done) | (simp +contextual; done) | (intro hq; have hq2 := hq; simp only [Bool.and_eq_true, Bool.or_eq_true, Bool.not_eq_true', Bool.not_not, Bool.not_eq_false', decide_eq_true_eq, decide_eq_false_iff_not] at hq2; (repeat' (first | exact hq | (with_reducible refine And.intro ?_ ?_) | omega)); done)))
 | (with_reducible refine retK_n ?_)
 | ((with_reducible show condN _ _ _ _ _ _); first
 | ((with_reducible refine condN_t ?_ ?_) <;> (intro hc; (try simp only [zB, zC, reduceCtorEq] at hc); (try (exfalso; omega)))))
 | ((with_reducible refine And.intro ?_ ?_); focus ((with_reducible show chkR _ _ _ = true); kernel_rfl))
 | ((with_reducible show callGN _ _ _ _ _ _ _ _ _ _); first
 | (refine callGN_q (k := 88) fnok_88 (fun hg => rtime_p _) ?_ ?_))
 | ((with_reducible show callDN _ _ _ _ _ _ _ _ _ _ _ _ _); first
 | (refine callDN_q (k := 89) fnok_89 (rpart_p (N.p i) N.nu (ho.p i (by omega))) ?_ ?_))
 | ((have q1 : N.kd = 2 := (by omega); with_reducible refine aL (c := (Code.seq (Code.seq (Code.region 14 _ _) _) _)) (ι := Nat) [1] (fun i => [(3, iA .i64 (i : Int))]) (fun i => []) (fun i => i ≤ N.n ∧ (∀ i', i' < i → npO N.p N.nu i')) (fun i => N.n - i) 0 ?lg14a ?l114a ?l214a ?li14a ?lr14a); (case' lg14a => rintro i _); (case' li14a => try (exact ⟨Nat.zero_le _, fun i hi => absurd hi (Nat.not_lt_zero _)⟩)); (case' lr14a => rintro i ⟨hi, hai⟩ KR hR14a; simp only [keepE, hupd, hset, lk, if_true, if_false, xE, reduceIte, zN]))
 | ((with_reducible refine hR14a _ (i + 1) ?_); (try clear hR14a KR))
 | ((have q1 : N.kd = 4 := (by omega); with_reducible refine aL (c := (Code.seq (Code.seq (Code.region 14 _ _) _) _)) (ι := Nat) [1] (fun i => [(3, iA .i64 (i : Int))]) (fun i => []) (fun i => i ≤ N.n ∧ (∀ i', i' < i → npO N.p N.nu i')) (fun i => N.n - i) 0 ?lg14b ?l114b ?l214b ?li14b ?lr14b); (case' lg14b => rintro i _); (case' li14b => try (exact ⟨Nat.zero_le _, fun i hi => absurd hi (Nat.not_lt_zero _)⟩)); (case' lr14b => rintro i ⟨hi, hai⟩ KR hR14b; simp only [keepE, hupd, hset, lk, if_true, if_false, xE, reduceIte, zN]))
 | ((have q1 : N.kd ≠ 2 ∧ N.kd ≠ 4 := (by omega); with_reducible refine aL (c := (Code.seq (Code.seq (Code.region 14 _ _) _) _)) (ι := Nat) [1] (fun i => [(3, iA .i64 (i : Int))]) (fun i => []) (fun i => i ≤ N.n ∧ (∀ i', i' < i → npO N.p N.nu i')) (fun i => N.n - i) 0 ?lg14c ?l114c ?l214c ?li14c ?lr14c); (case' lg14c => rintro i _); (case' li14c => try (exact ⟨Nat.zero_le _, fun i hi => absurd hi (Nat.not_lt_zero _)⟩)); (case' lr14c => rintro i ⟨hi, hai⟩ KR hR14c; simp only [keepE, hupd, hset, lk, if_true, if_false, xE, reduceIte, zN]))
 | ((with_reducible refine hR14c _ (i + 1) ?_); (try clear hR14c KR))
 | ((with_reducible refine Told.mk ?_); simp only [go_sem, reduceIte, reduceCtorEq, xA, xL, xD, xE, xM, xS, xB, intI] <;> ((((try simp (disch := omega) only [seaWrap, Int.natCast_add, Int.cast_ofNat_Int, and_true, true_and, and_self]); (repeat' (first | omega | (with_reducible refine And.intro ?_ ?_) | ((exact all_succ (by assumption) ⟨fun h0 => by omega, by simp_all⟩)))); done))))
 | ((fail_if_success (with_reducible show AW _ _ _ _)); simp (maxSteps := 2000000) only [go_sem, reduceIte, reduceCtorEq, xA, xL, xD, xE, xM, xS, xB, Tryz.f45, intI])
 | ((fail_if_success (with_reducible show AW _ _ _ _)); simp (disch := omega) only [seaWrap, seaDiv, seaMod])
 | ((with_reducible refine hK _ ?_); clear hK K)
 | (with_reducible apply_assumption -exfalso only [*]))
  all_goals (first | exact not_f0 (fun g => by have g1 := g.1; have g2 := g.2.1; have g3 := g.2.2; unfold termO at g2; omega) | exact not_t (by rw [notH_i]; unfold termO; omega) (by assumption) hai | exact rnot_f1 (by assumption) hc)
end Go.Proofs.YtdhgiklbkmkblaaGreat
namespace Go.Proofs
open Go.Shelf
def Tryz.laysNm221_ren : Go.Shelf.Ren := ⟨fun | 21 => 84 | 27 => 124 | 28 => 125 | 35 => 153 | 39 => 173 | n => n, fun | 22 => 24 | 3 => 3 | 4 => 4 | 0 => 0 | n => n, fun | n => n⟩
theorem Tryz.laysNm221 : Go.Proofs.Lays2.n21 Tryz.prog Tryz.laysNm221_ren := {
  mixed := by kernel_rfl
  f21 := Tryz.func84.trans (congrArg some (by kernel_rfl))
  f27 := Tryz.func124.trans (congrArg some (by kernel_rfl))
  f28 := Tryz.func125.trans (congrArg some (by kernel_rfl))
  f35 := Tryz.func153.trans (congrArg some (by kernel_rfl))
  f39 := Tryz.func173.trans (congrArg some (by kernel_rfl))
  t0 := Tryz.underlying0
  a0 := Tryz.isAgg0
  z0 := Tryz.sizeOf0
  v0 := Tryz.zeroValue0
  t3 := Tryz.underlying3
  a3 := Tryz.isAgg3
  z3 := Tryz.sizeOf3
  v3 := Tryz.zeroValue3
  t4 := Tryz.underlying4
  a4 := Tryz.isAgg4
  z4 := Tryz.sizeOf4
  v4 := Tryz.zeroValue4
  t22 := Tryz.underlying24
  a22 := Tryz.isAgg24
  z22 := Tryz.sizeOf24
  v22 := Tryz.zeroValue24
  i3 := by kernel_rfl }
end Go.Proofs
namespace Go.Proofs.YtdhgiklbkmkblaaGreat
open Go.RowKit Go.Sea Go.Sort
def insL (zs : List Int) (p : Nat) (x : Int) : List Int := zs.take p ++ x :: zs.drop p
theorem insL_len {zs : List Int} {p : Nat} {x : Int} (hp : p ≤ zs.length) : (insL zs p x).length = zs.length + 1 := by simp [insL]; omega
theorem insL_lo {zs : List Int} {p : Nat} {x : Int} {k : Nat} (hp : p ≤ zs.length) (hk : k < p) : (insL zs p x).getD k 0 = zs.getD k 0 := by
  unfold insL; rw [List.getD, List.getElem?_append_left (by simp; omega), List.getElem?_take, if_pos hk]; rfl
theorem insL_at {zs : List Int} {p : Nat} {x : Int} (hp : p ≤ zs.length) : (insL zs p x).getD p 0 = x := by
  unfold insL; rw [List.getD, List.getElem?_append_right (by simp; omega)]; simp [Nat.min_eq_left hp]
theorem insL_hi {zs : List Int} {p : Nat} {x : Int} {k : Nat} (hp : p ≤ zs.length) (hk : p < k) : (insL zs p x).getD k 0 = zs.getD (k - 1) 0 := by
  unfold insL
  rw [List.getD, List.getElem?_append_right (by simp; omega)]
  simp only [List.length_take, Nat.min_eq_left hp]
  obtain ⟨m, rfl⟩ : ∃ m, k = p + 1 + m := ⟨k - (p + 1), by omega⟩
  rw [show p + 1 + m - p = m + 1 by omega, List.getElem?_cons_succ, List.getElem?_drop, show p + 1 + m - 1 = p + m by omega]; rfl
theorem setCells_row {b : Nat} {e : TypeId} : ∀ (vs : List Value) (o : Nat) (w : World) (c : Array Value), w.heap[b]? = some (.cells c e (0, 0)) → o + vs.length ≤ c.size →
    ∃ c' : Array Value, w.setCells b o vs = w.setRow b c' ∧ c'.size = c.size ∧ ∀ k, c'[k]? = if o ≤ k ∧ k < o + vs.length then vs[k - o]? else c[k]?
  | [], o, w, c, hb, _ => ⟨c, by
      show w = w.setRow b c
      have : (w.setRow b c).heap = w.heap := by
        apply Array.ext_getElem?
        intro k
        by_cases hk : k = b
        · subst hk; rw [setRow_heap w k c c e (0, 0) hb, hb]
        · exact setRow_other w b k c hk
      show w = { w with heap := (w.setRow b c).heap }
      rw [this], rfl, fun k => by rw [if_neg (by simp only [List.length_nil]; omega)]⟩
  | v :: r, o, w, c, hb, hl => by
    have hl' : o + 1 + r.length ≤ c.size := by simp at hl; omega
    have e1 := setCell_eq_setRow w b o c e (0, 0) v hb
    obtain ⟨c', h1, h2, h3⟩ := setCells_row r (o + 1) (w.setCell ⟨b, o, none⟩ v) (c.setIfInBounds o v) (by rw [e1]; exact setRow_heap w b c _ e (0, 0) hb) (by simpa using hl')
    refine ⟨c', ?_, by simpa using h2, fun k => ?_⟩
    · rw [World.setCells, h1, e1, setRow_setRow]
    · rw [h3]
      by_cases hk : k = o
      · subst hk
        rw [if_neg (by omega), if_pos (by simp), Nat.sub_self, Array.getElem?_setIfInBounds, if_pos rfl, if_pos (by omega)]; rfl
      · by_cases hi : o + 1 ≤ k ∧ k < o + 1 + r.length
        · rw [if_pos hi, if_pos (by simp; omega)]
          obtain ⟨m, rfl⟩ : ∃ m, k = o + 1 + m := ⟨k - (o + 1), by omega⟩
          rw [show o + 1 + m - (o + 1) = m by omega, show o + 1 + m - o = m + 1 by omega, List.getElem?_cons_succ]
        · rw [if_neg hi, if_neg (by simp; omega), Array.getElem?_setIfInBounds, if_neg (by omega)]
theorem setRow_alloc (w : World) (C D : Array Value) (e : TypeId) : (w.alloc (.cells C e)).setRow w.heap.size D = w.alloc (.cells D e) := by
  unfold World.setRow World.alloc
  simp only [World.mk.injEq, and_true]
  apply Array.ext_getElem?
  intro k
  rw [Array.getElem?_modify]
  by_cases h : w.heap.size = k
  · subst h; rw [if_pos rfl]; simp
  · rw [if_neg h]
    by_cases h2 : k < w.heap.size
    · rw [Array.getElem?_push_lt h2, Array.getElem?_push_lt h2]
    · rw [Array.getElem?_eq_none (by simp; omega), Array.getElem?_eq_none (by simp; omega)]
section
variable {w0 : World} {Z0 : Fr} {J : Nat → Option Nat} {Z : Nat → Prop} {s : AS} {a : Act} {w : World}
theorem row_rel {ys : List Int} {c : Array Value} (h : ∀ k, k < ys.length → c[k]? = some (.int .i64 (ys.getD k 0))) (hs : ys.length ≤ c.size) : All2 (CRel w J Z) (c.toList.take (rowI ys).length) (rowI ys) := by
  refine All2.of (by simp [rowI_len]; omega) fun k u y hu hy => ?_
  have hk : k < ys.length := by
    rw [List.getElem?_take] at hu
    split at hu
    · rename_i h; rwa [rowI_len] at h
    · cases hu
  rw [List.getElem?_take, if_pos (by rw [rowI_len]; exact hk), Array.getElem?_toList, h k hk] at hu
  simp [rowI, hk] at hy
  cases hu; subst hy
  have : ys.getD k 0 = ys[k] := by simp [List.getD, hk]
  rw [this]
  exact Rd.g _ rfl
theorem rowI_pur' (zs : List Int) (i : Nat) : purgeC i (rowI zs) = rowI zs := purge_iv i (rowI_iv zs)
theorem ins_set (R : Rel w0 Z0 J Z s a w) {i b : Nat} {cs : List CV} {c c' : Array Value} {e : TypeId} {zs : List Int} (hi : hget s.heap i = some cs) (hj : J i = some b) (hb : w.heap[b]? = some (.cells c e (0, 0))) (hsz : c'.size = c.size) (hl : zs.length ≤ c'.size) (h : ∀ k, k < zs.length → c'[k]? = some (.int .i64 (zs.getD k 0))) :
    Rel w0 Z0 J Z (s.eff 0 (.app i (rowI zs))) a (w.setRow b c') := by
  have R1 := Rel.set R hi hj hb hsz (hget_hset_same s.heap i (rowI zs)) (fun q hq => hget_hset_ne _ _ _ _ hq) (row_rel h hl)
  have R2 := R1.purge i
  simp only [AS.purge, purgeH_hset, rowI_pur'] at R2
  exact R2
theorem ins_new (R : Rel w0 Z0 J Z s a w) {i : Nat} {cs : List CV} {C : Array Value} {e : TypeId} {zs : List Int} (hi : hget s.heap i = some cs) (hl : zs.length ≤ C.size) (h : ∀ k, k < zs.length → C[k]? = some (.int .i64 (zs.getD k 0))) :
    Rel w0 Z0 (jset J i w.heap.size) Z (s.eff 0 (.app i (rowI zs))) a (w.alloc (.cells C e)) := by
  refine Rel.move (s := s.purge i) (cs := rowI zs) (R.purge i) ?_ (hget_hset_same _ _ _) (fun q hq => hget_hset_ne _ _ _ _ hq) (fun t => ?_) (fun f t => ?_) (fun q x hq y hy => ?_) (row_rel h hl)
  · simp [AS.purge, hget_purge, hi]
  · simp only [AS.purge, AS.get, lk_purge]; exact AV.purge_ok i _
  · simp only [AS.purge, gk_purge]; exact AV.purge_ok i _
  · by_cases hqk : q = i
    · subst hqk
      rw [hget_hset_same, Option.some.injEq] at hq
      subst hq
      have := rowI_iv _ y hy
      cases y <;> first | trivial | exact this.elim
    · rw [hget_hset_ne _ _ _ _ hqk] at hq
      simp only [AS.purge, hget_purge, Option.map_eq_some_iff] at hq
      obtain ⟨cs0, _, rfl⟩ := hq
      exact purgeC_ok i _ y hy
theorem ge_rows {zs : List Int} {c : Array Value} (h : ∀ j, j < zs.length → c[j]? = some (.int .i64 (zs.getD j 0))) {b : Nat} {e : TypeId} (hb : w.heap[b]? = some (.cells c e (0, 0))) : ∀ j v, (zs.map (Value.int .i64))[j]? = some v → w.cell? ⟨b, 0 + j, none⟩ = some v := fun j v hv => by
  rw [cell_of_row w b _ c e _ hb, Nat.zero_add]
  rw [List.getElem?_map] at hv
  cases hz : zs[j]? with
  | none => rw [hz] at hv; cases hv
  | some z =>
    rw [hz] at hv
    obtain ⟨hj, rfl⟩ := List.getElem?_eq_some_iff.1 hz
    rw [h j hj]
    simp [List.getD, hj] at hv ⊢; exact hv
theorem one_cells (zs : List Int) : ∀ v ∈ zs.map (Value.int .i64), v.oneCell' = true := fun v hv => by
  obtain ⟨z, _, rfl⟩ := List.mem_map.1 hv; rfl
theorem map_getD {zs : List Int} {k : Nat} (hk : k < zs.length) : (zs.map (Value.int .i64))[k]? = some (.int .i64 (zs.getD k 0)) := by
  rw [List.getElem?_map, List.getElem?_eq_getElem hk]; simp [List.getD, hk]
theorem ins_cells {zs : List Int} {p : Nat} {x : Int} (hp : p ≤ zs.length) {c c1 c2 : Array Value} (h : ∀ k, k < p → c[k]? = some (.int .i64 (zs.getD k 0)))
    (h1 : ∀ k, c1[k]? = if p + 1 ≤ k ∧ k < p + 1 + (zs.map (Value.int .i64)).length - p then ((zs.map (Value.int .i64)).drop p)[k - (p + 1)]? else c[k]?) (h2 : ∀ k, c2[k]? = if p ≤ k ∧ k < p + 1 then [Value.int .i64 x][k - p]? else c1[k]?) : ∀ k, k < (insL zs p x).length → c2[k]? = some (.int .i64 ((insL zs p x).getD k 0)) := fun k hk => by
  rw [insL_len hp] at hk
  rcases Nat.lt_trichotomy k p with hl | rfl | hl
  · rw [h2, if_neg (by omega), h1, if_neg (by omega), h k hl, insL_lo hp hl]
  · rw [h2, if_pos (by omega), Nat.sub_self, insL_at hp]; rfl
  · rw [h2, if_neg (by omega), h1, if_pos (by rw [List.length_map]; omega), insL_hi hp hl, List.getElem?_drop, show p + (k - (p + 1)) = k - 1 by omega, map_getD (by omega)]
end
set_option maxHeartbeats 1000000 in
theorem ins_a {w0 : World} {Z0 : Fr} {J : Nat → Option Nat} {Z : Nat → Prop} {s : AS} {a : Act} {w : World} (R : Rel w0 Z0 J Z s a w) {i j : Nat} {zs : List Int} {p : Nat} {x : Int} {vs : Array Value} (hi : hget s.heap i = some (rowI zs)) (hj : hget s.heap j = some [.iv (.g (.int .i64 x))]) (hij : i ≠ j) (hp : p ≤ zs.length) (hz : (zs.length + 1) * 8 ≤ 140737488355328)
    (hv : All2 (TRel w J Z) vs.toList [.one (.slc i 0 zs.length 1), .one (.iv (.g (.int .i64 (p : Int)))), .one (.slc j 0 1 1)]) :
    Calls Tryz.prog 84 vs w fun e w' => ∃ v J', e = .returned v ∧ Rel w0 Z0 J' Z (s.eff 0 (.app i (rowI (insL zs p x)))) a w' ∧ ARel w' J' Z v (.t (.one (.slc i 0 (zs.length + 1) 1))) := by
  obtain ⟨vs⟩ := vs
  match vs, hv with
  | [v1, v2, v3], ⟨h1, h2, h3, _⟩ =>
    have e2 : v2 = .int .i64 p := by cases h2; rfl
    subst e2
    rcases h3 with ⟨h3, _⟩ | ⟨vb, vc, C, eC, rfl, hjv, hvc1, hvc2, hbv, hsv⟩
    · cases h3
    have hne : zs.length + 1 ≤ maxLen := by unfold maxLen; omega
    have hV : ∀ q v, [Value.int .i64 x][q]? = some v → w.cell? ⟨vb, 0 + q, none⟩ = some v := fun q v hq => by
      obtain ⟨c1, e1, g2, g3⟩ := R.cells hj (by simp) hjv ⟨_, _, hbv⟩
      rw [hbv] at g2; cases g2
      rcases q with _ | q
      · rw [cell_of_row w vb _ C eC _ hbv, Nat.zero_add]
        obtain ⟨u, hu, hr⟩ := g3.get (k := 0) (y := .iv (.g (.int .i64 x))) rfl
        rw [List.getElem?_take, if_pos (by simp), Array.getElem?_toList] at hu
        rw [hu]; cases hr; exact hq
      · simp at hq
    have h1v : ∀ v ∈ [Value.int .i64 x], v.oneCell' = true := fun v hv => by simp at hv; subst hv; rfl
    have new : ∀ (e : Ending) (W : World) (c : Nat) (C2 : Array Value), e = .returned (.slice (some ⟨w.heap.size, 0, none⟩) (zs.length + 1) (grownCap w (zs.length + 1) c 3)) → Rel w0 Z0 J Z s a W → W.heap.size = w.heap.size → (∀ k, k < (insL zs p x).length → C2[k]? = some (.int .i64 ((insL zs p x).getD k 0))) → C2.size = zs.length + 1 + (grownCap w (zs.length + 1) c 3 - (zs.length + 1)) →
        ∃ v J', e = .returned v ∧ Rel w0 Z0 J' Z (s.eff 0 (.app i (rowI (insL zs p x)))) a (W.alloc (.cells C2 3)) ∧ ARel (W.alloc (.cells C2 3)) J' Z v (.t (.one (.slc i 0 (zs.length + 1) 1))) := fun e W c C2 he RW hWs hC hsz => by
      have hg := grownCap_ge w (zs.length + 1) c 3
      have hl := insL_len (x := x) hp
      refine ⟨_, _, he, ins_new RW hi (by rw [hl]; omega) hC, ?_⟩
      refine Or.inr ⟨w.heap.size, _, _, 3, rfl, by simp [jset, hWs], hg, grownCap_le_maxLen w _ _ 3 hne, ?_, by rw [hsz]; omega⟩
      rw [← hWs]; exact heap_alloc_new W _
    have hlz : (zs.map (Value.int .i64)).length = zs.length := List.length_map _
    rcases h1 with ⟨h0, rfl⟩ | ⟨b, cap, c, e, rfl, hjb, hc1, hc2, hb, hs⟩
    · -- nil
      have hz0 : zs = [] := List.eq_nil_of_length_eq_zero h0
      subst hz0
      obtain rfl : p = 0 := by simpa using hp
      have H : Calls Tryz.prog 84 #[.slice none 0 0, .int .i64 (0 : Nat), .slice (some ⟨vb, 0, none⟩) 1 vc] w fun e w' => e = .returned (.slice (some ⟨w.heap.size, 0, none⟩) (0 + 1) (grownCap w (0 + 1) 0 3)) ∧ w' = w.drew.alloc (.cells (([] ++ [Value.int .i64 x]).toArray ++ Builtin.zeroCells (Value.int .i64 0).cells (grownCap w (0 + 1) 0 3 - (0 + 1))) 3) :=
        Any2.slices_Insert_int_end_grow Tryz.laysNm221 none 0 0 vb 0 1 vc [] [.int .i64 x] w (by omega) (by omega) (by omega) (by omega) rfl rfl (fun _ => rfl) (fun _ h => by cases h) hV h1v
      refine H.mono fun e w' ⟨he, hw⟩ => ?_
      subst hw
      refine new e w.drew 0 _ he R.drew rfl (fun k hk => ?_) ?_
      · have : k = 0 := by rw [insL_len hp] at hk; simp at hk; exact hk
        subst this; rw [Array.getElem?_append_left (by simp)]; rfl
      · simp [Builtin.zeroCells, Value.cells]
    · have hcz : ∀ k, k < zs.length → c[k]? = some (.int .i64 (zs.getD k 0)) := fun k hk => (row_read R hjb hb (by rintro rfl; simp at hk) hi).2 k hk
      have hvb : vb ≠ b := by
        rintro rfl
        exact hij (R.inj _ _ _ hjb hjv)
      have hrow := ge_rows hcz hb
      by_cases hroom : zs.length + 1 ≤ cap
      · have hcs : zs.length + 1 ≤ c.size := by omega
        rcases Nat.lt_or_ge p zs.length with hpl | hpl
        · -- shift
          have H : Calls Tryz.prog 84 #[.slice (some ⟨b, 0, none⟩) zs.length cap, .int .i64 p, .slice (some ⟨vb, 0, none⟩) 1 vc] w fun e w' => e = .returned (.slice (some ⟨b, 0, none⟩) (zs.length + 1) cap) ∧ w' = (w.drew.setCells b (0 + (p + 1)) ((zs.map (Value.int .i64)).drop p)).setCells b (0 + p) [.int .i64 x] :=
            Any2.slices_Insert_int_shift Tryz.laysNm221 b 0 zs.length cap p vb 0 1 vc (zs.map (Value.int .i64)) [.int .i64 x] w hpl (by omega) hroom (by unfold maxLen at hc2; omega) hvb hlz rfl hrow (fun q hq => by
              rw [cell_of_row w b _ c e _ hb, Array.getElem?_eq_getElem (by omega)]; rfl) (fun q hq => by simp [World.frozen?, hb]) hV (one_cells zs) h1v eC e C.size c.size (by simp [World.shape?, hbv]) (by simp [World.shape?, hb]) (by omega) (by simp [World.frozen?, hbv]) (by simp [World.frozen?, hbv])
          refine H.mono fun e' w' ⟨he, hw⟩ => ?_
          obtain ⟨c1, g1, g2, g3⟩ := setCells_row (e := e) ((zs.map (Value.int .i64)).drop p) (0 + (p + 1)) w.drew c hb (by rw [List.length_drop, hlz]; omega)
          obtain ⟨c2, k1, k2, k3⟩ := setCells_row (e := e) [.int .i64 x] (0 + p) (w.drew.setRow b c1) c1 (setRow_heap w.drew b c c1 e (0, 0) hb) (by simp; omega)
          rw [g1, k1, setRow_setRow] at hw
          subst hw
          have hC := ins_cells (x := x) hp (fun k hk => hcz k (by omega)) (c1 := c1) (c2 := c2) (fun k => by rw [g3, List.length_drop, hlz]; simp only [Nat.zero_add]; congr 1; exact propext ⟨fun h => by omega, fun h => by omega⟩) (fun k => by rw [k3]; simp only [Nat.zero_add, List.length_cons, List.length_nil])
          refine ⟨_, J, he, ins_set R.drew hi hjb hb (by omega) (by rw [insL_len hp]; omega) hC, ?_⟩
          exact Or.inr ⟨b, cap, c2, e, rfl, hjb, hroom, hc2, setRow_heap w.drew b c c2 e (0, 0) hb, by omega⟩
        · -- the end, room
          obtain rfl : p = zs.length := by omega
          have H : Calls Tryz.prog 84 #[.slice (some ⟨b, 0, none⟩) zs.length cap, .int .i64 zs.length, .slice (some ⟨vb, 0, none⟩) 1 vc] w fun e w' => e = .returned (.slice (some ⟨b, 0, none⟩) (zs.length + 1) cap) ∧ w' = w.setCells b (0 + zs.length) [.int .i64 x] :=
            Any2.slices_Insert_int_end_room Tryz.laysNm221 b 0 zs.length cap vb 0 1 vc [.int .i64 x] w (by omega) hroom (by unfold maxLen at hc2; omega) rfl (fun q hq => by
              rw [cell_of_row w b _ c e _ hb, Array.getElem?_eq_getElem (by omega)]; rfl) (fun q hq => by simp [World.frozen?, hb]) hV h1v
          refine H.mono fun e' w' ⟨he, hw⟩ => ?_
          obtain ⟨c2, k1, k2, k3⟩ := setCells_row (e := e) [.int .i64 x] (0 + zs.length) w c hb (by simp; omega)
          rw [k1] at hw
          subst hw
          refine ⟨_, J, he, ins_set R hi hjb hb (by omega) (by rw [insL_len hp]; omega) (fun k hk => ?_), ?_⟩
          · rw [insL_len hp] at hk
            rw [k3]
            by_cases hke : k = zs.length
            · subst hke; rw [if_pos (by simp), insL_at hp]; simp
            · rw [if_neg (by simp; omega), hcz k (by omega), insL_lo hp (by omega)]
          · exact Or.inr ⟨b, cap, c2, e, rfl, hjb, hroom, hc2, setRow_heap w b c c2 e (0, 0) hb, by omega⟩
      · rcases Nat.lt_or_ge p zs.length with hpl | hpl
        · -- anew, in the middle
          have H : Calls Tryz.prog 84 #[.slice (some ⟨b, 0, none⟩) zs.length cap, .int .i64 p, .slice (some ⟨vb, 0, none⟩) 1 vc] w fun e w' => e = .returned (.slice (some ⟨w.heap.size, 0, none⟩) (zs.length + 1) (grownCap w (zs.length + 1) cap 3)) ∧
              w' = (((w.alloc (.cells (((zs.map (Value.int .i64)).take p).toArray ++ Builtin.zeroCells (Value.int .i64 0).cells (zs.length + 1 - p) ++ Builtin.zeroCells (Value.int .i64 0).cells (grownCap w (zs.length + 1) cap 3 - (zs.length + 1))) 3)).drew.setCells w.heap.size p [.int .i64 x]).drew).setCells w.heap.size (p + 1) ((zs.map (Value.int .i64)).drop p) :=
            Any2.slices_Insert_int_grow Tryz.laysNm221 b 0 zs.length cap p vb 0 1 vc (zs.map (Value.int .i64)) [.int .i64 x] w hpl (by omega) hc1 (by omega) hz hlz rfl hrow hV (one_cells zs) h1v
          refine H.mono fun e' w' ⟨he, hw⟩ => ?_
          obtain ⟨C0, hC0⟩ : ∃ C0, C0 = ((zs.map (Value.int .i64)).take p).toArray ++ Builtin.zeroCells (Value.int .i64 0).cells (zs.length + 1 - p) ++ Builtin.zeroCells (Value.int .i64 0).cells (grownCap w (zs.length + 1) cap 3 - (zs.length + 1)) := ⟨_, rfl⟩
          have hs0 : C0.size = zs.length + 1 + (grownCap w (zs.length + 1) cap 3 - (zs.length + 1)) := by
            rw [hC0]; simp [Builtin.zeroCells, Value.cells]; omega
          have hlo : ∀ k, k < p → C0[k]? = some (.int .i64 (zs.getD k 0)) := fun k hk => by
            rw [hC0, Array.append_assoc, Array.getElem?_append_left (by simp; omega), List.getElem?_toArray, List.getElem?_take, if_pos hk, map_getD (by omega)]
          rw [← hC0] at hw
          obtain ⟨c1, g1, g2, g3⟩ := setCells_row (e := 3) [.int .i64 x] p (w.drew.alloc (.cells C0 3)) C0 (heap_alloc_new w.drew _) (by simp; omega)
          obtain ⟨c2, k1, k2, k3⟩ := setCells_row (e := 3) ((zs.map (Value.int .i64)).drop p) (p + 1) (w.drew.drew.alloc (.cells c1 3)) c1 (heap_alloc_new w.drew.drew _) (by rw [List.length_drop, hlz]; omega)
          have e1 : (w.alloc (.cells C0 3)).drew.setCells w.heap.size p [.int .i64 x] = w.drew.alloc (.cells c1 3) := g1.trans (setRow_alloc w.drew C0 c1 3)
          have e2 : (w.drew.alloc (.cells c1 3)).drew.setCells w.heap.size (p + 1) ((zs.map (Value.int .i64)).drop p) = w.drew.drew.alloc (.cells c2 3) := k1.trans (setRow_alloc w.drew.drew c1 c2 3)
          rw [e1, e2] at hw
          subst hw
          refine new e' w.drew.drew cap c2 he R.drew.drew rfl (fun k hk => ?_) (by omega)
          rw [insL_len hp] at hk
          rw [k3]
          rcases Nat.lt_trichotomy k p with hl | hl | hl
          · rw [if_neg (by omega), g3, if_neg (by omega), hlo k hl, insL_lo hp hl]
          · subst hl; rw [if_neg (by omega), g3, if_pos (by simp), Nat.sub_self, insL_at hp]; rfl
          · rw [if_pos (by rw [List.length_drop, hlz]; omega), List.getElem?_drop, show p + (k - (p + 1)) = k - 1 by omega, map_getD (by omega), insL_hi hp hl]
        · -- anew, at the end
          obtain rfl : p = zs.length := by omega
          have H : Calls Tryz.prog 84 #[.slice (some ⟨b, 0, none⟩) zs.length cap, .int .i64 zs.length, .slice (some ⟨vb, 0, none⟩) 1 vc] w fun e w' => e = .returned (.slice (some ⟨w.heap.size, 0, none⟩) (zs.length + 1) (grownCap w (zs.length + 1) cap 3)) ∧ w' = w.drew.alloc (.cells (((zs.map (Value.int .i64)) ++ [Value.int .i64 x]).toArray ++ Builtin.zeroCells (Value.int .i64 0).cells (grownCap w (zs.length + 1) cap 3 - (zs.length + 1))) 3) :=
            Any2.slices_Insert_int_end_grow Tryz.laysNm221 (some ⟨b, 0, none⟩) zs.length cap vb 0 1 vc (zs.map (Value.int .i64)) [.int .i64 x] w (by omega) hc1 (by omega) hz hlz rfl (fun h => by cases h) (fun a ha q v hq => by cases ha; rw [Addr.add_lit]; exact hrow q v hq) hV h1v
          refine H.mono fun e' w' ⟨he, hw⟩ => ?_
          subst hw
          refine new e' w.drew cap _ he R.drew rfl (fun k hk => ?_) ?_
          · rw [insL_len hp] at hk
            rw [Array.getElem?_append_left (by simp; omega), List.getElem?_toArray]
            by_cases hke : k = zs.length
            · subst hke; rw [List.getElem?_append_right (by simp), insL_at hp]; simp
            · rw [List.getElem?_append_left (by simp; omega), map_getD (by omega), insL_lo hp (by omega)]
          · simp [Builtin.zeroCells, Value.cells]
end Go.Proofs.YtdhgiklbkmkblaaGreat
set_option maxRecDepth 100000
set_option maxHeartbeats 4000000
namespace Go.Proofs.YtdhgiklbkmkblaaGreat
open Go.RowKit Go.Sea
open Nat renaming reduceAdd → xA, reduceLT → xL, reduceLeDiff → xD, reduceEqDiff → xE, reduceMul → xM, reduceSub → xS, reduceBEq → xB
theorem ar_31 : arD Tryz.prog 31 = none := by kernel_rfl
theorem fnok_31 : fnOk Tryz.prog 31 = true := by kernel_rfl
theorem fnok_45 : fnOk Tryz.prog 45 = true := by kernel_rfl
theorem le_31 : lenD Tryz.prog 31 = some true := by kernel_rfl
theorem sl_31 : slD Tryz.prog 31 = some (7, 72, 30) := by kernel_rfl
attribute [go_sem] ar_31 fnok_31 fnok_45 le_31 sl_31
def notG : NotS → Nat → IV
  | N, 0 => .g (.int .i64 N.oc)
  | N, 1 => .g (.int .i64 N.nu)
  | N, 2 => .g (.int .i64 N.kd)
  | N, 3 => .g (.int .i64 N.fr)
  | N, 4 => .g (.int .i64 N.un)
  | N, 5 => .g (.int .i64 N.ca)
  | N, _ + 6 => .lst 3 N.n (partF N.p)
def notF (N : Nat → NotS) (i c : Nat) : IV := notG (N i) c
theorem notF0 (N : Nat → NotS) (i : Nat) : notF N i 0 = .g (.int .i64 (N i).oc) := rfl
theorem notF1 (N : Nat → NotS) (i : Nat) : notF N i 1 = .g (.int .i64 (N i).nu) := rfl
theorem notF2 (N : Nat → NotS) (i : Nat) : notF N i 2 = .g (.int .i64 (N i).kd) := rfl
theorem notF3 (N : Nat → NotS) (i : Nat) : notF N i 3 = .g (.int .i64 (N i).fr) := rfl
theorem notF4 (N : Nat → NotS) (i : Nat) : notF N i 4 = .g (.int .i64 (N i).un) := rfl
theorem notF5 (N : Nat → NotS) (i : Nat) : notF N i 5 = .g (.int .i64 (N i).ca) := rfl
theorem notF6 (N : Nat → NotS) (i : Nat) : notF N i 6 = .lst 3 (N i).n (partF (N i).p) := rfl
attribute [go_sem] notF0 notF1 notF2 notF3 notF4 notF5 notF6
def notO (N : Nat → NotS) (i : Nat) : Prop := notB (N i) = true ∧ (N i).oc = (N 0).oc ∧ (0 < i → (N (i - 1)).nu < (N i).nu)
instance (N : Nat → NotS) (i : Nat) : Decidable (notO N i) := by unfold notO; infer_instance
def ntsB (n : Nat) (N : Nat → NotS) : Bool := decide (n ≤ 200 ∧ ∀ i, i < n → notO N i)
def prtJ (N : NotS) (ch : Int) : Nat := fstB (fun i => decide ((N.p i).ch = ch)) N.n
def prtB (N : NotS) (ch : Int) : Bool := decide (prtJ N ch < N.n)
def prtV (N : NotS) (ch : Int) : Int := if prtJ N ch < N.n then (prtJ N ch : Int) else -1
def cncB (N : NotS) (ch : Int) : Bool := decide (N.kd = 1) && prtB N ch
def fndJ (n : Nat) (N : Nat → NotS) (x : Int) : Nat := fstB (fun i => decide ((N i).nu = x)) n
theorem prt_h {N : NotS} {ch : Int} {i : Nat} (hi : (i : Int) < N.n) (h : (N.p i).ch = ch) (g : ∀ j, j < i → (N.p j).ch ≠ ch) : prtJ N ch = i := fstB_h (b := fun i => decide ((N.p i).ch = ch)) (decide_eq_true h) (fun j hj => decide_eq_false (g j hj)) _ (by omega)
theorem prt_i {N : NotS} {ch : Int} {i : Nat} (hi : (i : Int) < N.n) (h : (N.p i).ch = ch) (g : ∀ j, j < i → (N.p j).ch ≠ ch) : (i : Int) = prtV N ch := by unfold prtV; rw [prt_h hi h g, if_pos (by omega)]
theorem prt_o {N : NotS} {ch : Int} {i : Nat} (hi : (N.n : Int) ≤ i) (g : ∀ j, j < i → (N.p j).ch ≠ ch) : prtJ N ch = N.n := fstB_t _ fun j hj => decide_eq_false (g j (by omega))
theorem prt_n {N : NotS} {ch : Int} {i : Nat} (hi : (N.n : Int) ≤ i) (g : ∀ j, j < i → (N.p j).ch ≠ ch) : -1 = prtV N ch := by unfold prtV; rw [prt_o hi g, if_neg (by omega)]
theorem prt_ge {N : NotS} {ch : Int} : decide (0 ≤ prtV N ch) = prtB N ch := by unfold prtB prtV; split <;> simp_all
theorem rnts_f {n : Nat} {N : Nat → NotS} {i : Nat} (hi : (i : Int) < n) (h : (notB (N i) = false ∨ (N i).oc ≠ (N 0).oc) ∨ (i : Int) > 0 ∧ (N i).nu ≤ (N (i - 1)).nu) : false = ntsB n N := (decide_eq_false fun g => by
  have g1 := g.2 i (by omega)
  rcases h with (h | h) | h
  · rw [g1.1] at h; cases h
  · exact h g1.2.1
  · have := g1.2.2 (by omega); omega).symm
theorem rnts_n {n : Nat} {N : Nat → NotS} (h : (n : Int) > 200) : false = ntsB n N := (decide_eq_false fun g => by omega).symm
theorem rnts_t {n : Nat} {N : Nat → NotS} {i : Nat} (h : (n : Int) ≤ 200) (hi : (n : Int) ≤ i) (g : ∀ j, j < i → notO N j) : true = ntsB n N := (decide_eq_true ⟨by omega, fun j hj => g j (by omega)⟩).symm
def liI (q : Nat) (a : Nat → Int) : List Int := (List.range q).map a
theorem liI_len (q : Nat) (a : Nat → Int) : (liI q a).length = q := by simp [liI]
theorem liI_get {q : Nat} {a : Nat → Int} {i : Nat} (h : i < q) : (liI q a).getD i 0 = a i := by simp [liI, List.getD, h]
def posI (zs : List Int) (x : Int) : Nat := fstB (fun i => decide (¬ zs.getD i 0 < x)) zs.length
theorem posI_le (zs : List Int) (x : Int) : posI zs x ≤ zs.length := fstB_le _ _
def dnI (q : Nat) (a : Nat → Int) (x : Int) (i : Nat) : Int := (insL (liI q a) (posI (liI q a) x) x).getD i 0
theorem rowI_snoc (zs : List Int) (x : Int) (i : Nat) : List.map (CV.purge i) (rowI zs ++ [.iv (.g (.int .i64 x))]) = rowI (zs ++ [x]) := by
  have e : rowI zs ++ [CV.iv (.g (.int .i64 x))] = rowI (zs ++ [x]) := by simp [rowI]
  rw [e]; exact rowI_pur _ _
theorem rowI_dn {q : Nat} {a : Nat → Int} {x : Int} : ∀ i o, i < q + 1 → o < 1 → (civ ((rowI (insL (liI q a) (posI (liI q a) x) x)).getD (i * 1 + o) .any)).eqv (intI (dnI q a x) i o) := fun i o hi ho => by
  obtain rfl : o = 0 := by omega
  have hl : (insL (liI q a) (posI (liI q a) x) x).length = q + 1 := by rw [insL_len (posI_le _ _), liI_len]
  rw [Nat.add_zero, Nat.mul_one, rowI_get _ _ (by omega)]
  exact IV.eqv_refl _
theorem rowI_dn2 {q : Nat} {a : Nat → Int} {x : Int} {i o : Nat} (hi : i < q + 1) (ho : o < 1) : (civ ((rowI (insL (liI q a) (posI (liI q a) x) x)).getD (i + o) .any)).eqv (.g (.int .i64 (dnI q a x i))) := by
  have := rowI_dn (q := q) (a := a) (x := x) i o hi ho
  rw [Nat.mul_one] at this; exact this
def w64 (x : Int) : Int := IntKind.i64.wrap x
def lenO (p : PartS) (acc : Int) : Nat → Int
  | 0 => acc
  | j + 1 => w64 (w64 (lenO p acc j + ((p.o j).f.n : Int)) + ((p.o j).f.m : Int))
def lenP (N : NotS) : Nat → Int
  | 0 => N.n
  | i + 1 => lenO (N.p i) (w64 (w64 (lenP N i + ((N.p i).q : Int)) + ((N.p i).k : Int))) (N.p i).k
def fewB (s : ShtS) (n : Nat) (N : Nat → NotS) : Bool := decide (s.n ≤ 20 ∧ s.q ≤ 30 ∧ n ≤ 10 ∧ ∀ i, i < n → lenP (N i) (N i).n ≤ 200)
theorem rprt_p (N : NotS) (ch : Int) (ho : N.Ok) : CallsP Tryz.prog 31 [(noP N), .one (.g (.int .i64 ch))] (.t (.one (.g (.int .i64 (prtV N ch))))) := by
  have hnn := ho.n
  refine CallsP_of Tryz.func31 rfl (by rw [Tryz.ntmps31]; simp) ?_
  simp only [noP, Tryz.ntmps31, zM, PT.tv, argEnv, Nat.zero_add, Nat.reduceAdd]
  repeat' (first
 | ((with_reducible show AW _ _ _ _); first
 | (with_reducible first | refine aS (fun K hK => ?_) | refine aI ?_ | refine aX ?_ | refine aT ?_ | refine aC ?_ | refine aB ?_)
 | (first
 | (with_reducible first | refine aP 0 [0,1] ?_ | refine aP 1 [1,2] ?_ | refine aP 2 [1,2,5] ?_ | refine aP 3 [1,2,5] ?_ | refine aP 4 [1,2,5] ?_ | refine aP 5 [5] ?_ | refine aP 6 [] ?_))
 | ((with_reducible show AW _ (Code.loop _) _ _); first
 | ((with_reducible refine aL (c := (Code.seq (Code.seq (Code.region 2 _ _) _) _)) (ι := Nat) [1,2] (fun i => [(5, iA .i64 (i : Int))]) (fun i => []) (fun i => i ≤ N.n ∧ (∀ j, j < i → (N.p j).ch ≠ ch)) (fun i => N.n - i) 0 ?lg2 ?l12 ?l22 ?li2 ?lr2); (case' lg2 => rintro i _); (case' li2 => try (exact ⟨Nat.zero_le _, fun i hi => absurd hi (Nat.not_lt_zero _)⟩)); (case' lr2 => rintro i ⟨hi, hai⟩ KR hR2; simp only [keepE, hupd, hset, lk, if_true, if_false, xE, reduceIte, zN]))))
 | (((with_reducible refine And.intro ?_ ?_)); focus (omega))
 | (with_reducible refine retK_n ?_)
 | ((with_reducible show condN _ _ _ _ _ _); first
 | ((with_reducible refine condN_t ?_ ?_) <;> (intro hc; (try simp only [zB, zC, reduceCtorEq] at hc); (try (exfalso; contradiction)))))
 | ((with_reducible refine hR2 _ (i + 1) ?_); (try clear hR2 KR))
 | ((with_reducible refine Told.mk ?_); simp only [go_sem, reduceIte, reduceCtorEq, xA, xL, xD, xE, xM, xS, xB, intI] <;> ((((try simp (disch := omega) only [seaWrap, Int.natCast_add, Int.cast_ofNat_Int, and_true, true_and, and_self]); (repeat' (first | omega | (with_reducible refine And.intro ?_ ?_) | (exact all_succ (by assumption) (by assumption)))); done))))
 | ((fail_if_success (with_reducible show AW _ _ _ _)); simp (maxSteps := 2000000) only [go_sem, reduceIte, reduceCtorEq, xA, xL, xD, xE, xM, xS, xB, Tryz.f31, intI])
 | ((with_reducible refine hK _ ?_); clear hK K)
 | (with_reducible apply_assumption -exfalso only [*]))
  all_goals (first | exact prt_i (by assumption) (by assumption) hai | exact prt_n (by assumption) hai)
theorem rcnc_p (N : NotS) (ch : Int) (ho : N.Ok) : CallsP Tryz.prog 35 [(noP N), .one (.g (.int .i64 ch))] (.t (.one (.g (.bool (cncB N ch))))) := by
  refine CallsP_of Tryz.func35 rfl (by rw [Tryz.ntmps35]; simp) ?_
  simp only [noP, Tryz.ntmps35, zM, PT.tv, argEnv, Nat.zero_add, Nat.reduceAdd]
  repeat' (first
 | ((with_reducible show AW _ _ _ _); first
 | (with_reducible first | refine aS (fun K hK => ?_) | refine aT ?_)
 | (first
 | (with_reducible first | refine aP 0 [0,1] ?_ | refine aP 1 [1,2] ?_)))
 | (((with_reducible refine Need.mk ?_)); focus ((intro _; (with_reducible assumption))))
 | (with_reducible refine retK_n ?_)
 | ((with_reducible show callGN _ _ _ _ _ _ _ _ _ _); first
 | (refine callGN_q (k := 31) fnok_31 (fun hg => rprt_p N ch ho) ?_ ?_))
 | ((fail_if_success (with_reducible show AW _ _ _ _)); simp (maxSteps := 2000000) only [go_sem, reduceIte, reduceCtorEq, xA, xL, xD, xE, xM, xS, xB, Tryz.f35, prt_ge])
 | ((with_reducible refine hK _ ?_); clear hK K))
  all_goals ((unfold cncB; rw [← prt_ge]; (try refine Bool.eq_iff_iff.2 ?_); (simp only [Bool.and_eq_true, Bool.or_eq_true, Bool.not_eq_true', decide_eq_true_eq, decide_eq_false_iff_not, bne_iff_ne, beq_iff_eq, ne_eq, ge_iff_le, gt_iff_lt, cond_eq_ite, iff_self, eq_self]; done)))
theorem rnts_p (n : Nat) (N : Nat → NotS) (hn : n ≤ 9223372036854775807) (hN : ∀ i, i < n → (N i).Ok) : CallsP Tryz.prog 36 [.one (.lst 7 n (notF N))] (.t (.one (.g (.bool (ntsB n N))))) := by
  refine CallsP_of Tryz.func36 rfl (by rw [Tryz.ntmps36]; simp) ?_
  simp only [Tryz.ntmps36, zM, PT.tv, argEnv, Nat.zero_add, Nat.reduceAdd]
  repeat' (first
 | ((with_reducible show AW _ _ _ _); first
 | (with_reducible first | refine aS (fun K hK => ?_) | refine aI ?_ | refine aX ?_ | refine aT ?_ | refine aC ?_ | refine aB ?_)
 | (first
 | (with_reducible first | refine aP 0 [0] ?_ | refine aP 1 [0] ?_ | refine aP 2 [] ?_ | refine aP 3 [0] ?_ | refine aP 4 [0,3] ?_ | refine aP 5 [0,3] ?_ | refine aP 6 [0,3] ?_)
 | ((with_reducible refine aR (c := Code.region 7 _ true) [0,3,4] ?_); (with_reducible refine aD ?_ ?_ ?_ ?_); (focus kernel_rfl); (focus kernel_rfl); (focus kernel_rfl))
 | (with_reducible first | refine aP 8 [] ?_ | refine aP 9 [] ?_))
 | ((with_reducible show AW _ (Code.loop _) _ _); first
 | ((with_reducible refine aL (c := (Code.seq (Code.seq (Code.region 4 _ _) _) _)) (ι := Nat) [0] (fun i => [(3, iA .i64 (i : Int))]) (fun i => []) (fun i => i ≤ n ∧ (∀ j, j < i → notO N j)) (fun i => n - i) 0 ?lg4 ?l14 ?l24 ?li4 ?lr4); (case' lg4 => rintro i _); (case' li4 => try (exact ⟨Nat.zero_le _, fun i hi => absurd hi (Nat.not_lt_zero _)⟩)); (case' lr4 => rintro i ⟨hi, hai⟩ KR hR4; simp only [keepE, hupd, hset, lk, if_true, if_false, xE, reduceIte, zN]))))
 | ((first | (with_reducible refine And.intro ?_ ?_) | (with_reducible refine Need.mk ?_)); focus (first | exact True.intro | omega | (intros; (repeat' (first | omega | (with_reducible refine And.intro ?_ ?_))); done) | (simp; done) | (simp +contextual; done) | (intro hq; have hq2 := hq; simp only [Bool.and_eq_true, Bool.or_eq_true, Bool.not_eq_true', Bool.not_not, Bool.not_eq_false', decide_eq_true_eq, decide_eq_false_iff_not] at hq2; (repeat' (first | exact hq | (with_reducible refine And.intro ?_ ?_) | omega)); done)))
 | (with_reducible refine retK_n ?_)
 | ((with_reducible show condN _ _ _ _ _ _); first
 | ((with_reducible refine condN_t ?_ ?_) <;> (intro hc; (try simp only [zB, zC, reduceCtorEq] at hc); (try (exfalso; contradiction)))))
 | ((with_reducible refine And.intro ?_ ?_); focus ((with_reducible show chkR _ _ _ = true); kernel_rfl))
 | ((with_reducible show callN _ _ _ _ _ _ _ _ _ _); first
 | (refine callN_q (k := 45) fnok_45 (rNot_p (N i) (hN i (by omega))) ?_ ?_))
 | ((with_reducible refine hR4 _ (i + 1) ?_); (try clear hR4 KR))
 | ((with_reducible refine Told.mk ?_); simp only [go_sem, reduceIte, reduceCtorEq, xA, xL, xD, xE, xM, xS, xB] <;> ((((try simp (disch := omega) only [seaWrap, Int.natCast_add, Int.cast_ofNat_Int, and_true, true_and, and_self]); (repeat' (first | omega | (with_reducible refine And.intro ?_ ?_) | ((exact all_succ (by assumption) ⟨by simp_all, by omega, fun h0 => by omega⟩)))); done))))
 | ((fail_if_success (with_reducible show AW _ _ _ _)); simp (maxSteps := 2000000) only [go_sem, reduceIte, reduceCtorEq, xA, xL, xD, xE, xM, xS, xB, Tryz.f36])
 | ((fail_if_success (with_reducible show AW _ _ _ _)); simp (disch := omega) only [seaWrap, seaDiv, seaMod])
 | ((with_reducible refine hK _ ?_); clear hK K)
 | (with_reducible apply_assumption -exfalso only [*]))
  all_goals (first | exact rnts_n (by assumption) | exact rnts_f (by assumption) hc | exact rnts_t (by assumption) (by assumption) hai)
end Go.Proofs.YtdhgiklbkmkblaaGreat
set_option maxRecDepth 100000
set_option maxHeartbeats 4000000
namespace Go.Proofs.YtdhgiklbkmkblaaGreat
open Go.RowKit Go.Sea
open Nat renaming reduceAdd → xA, reduceLT → xL, reduceLeDiff → xD, reduceEqDiff → xE, reduceMul → xM, reduceSub → xS, reduceBEq → xB
theorem fnok_33 : fnOk Tryz.prog 33 = true := by kernel_rfl
theorem fnok_44 : fnOk Tryz.prog 44 = true := by kernel_rfl
theorem fnok_46 : fnOk Tryz.prog 46 = true := by kernel_rfl
theorem fnok_47 : fnOk Tryz.prog 47 = true := by kernel_rfl
theorem fo_27 : fieldsOk Tryz.prog 27 = true := by kernel_rfl
theorem ty_27 : tyD Tryz.prog 27 = some (true, 13) := by kernel_rfl
theorem zc_27 : zeroC Tryz.prog 27 = some [.iv (.g (.int .i64 0)), .iv (.g (.int .i64 0)), .iv (.g (.int .i64 0)), .iv (.g (.int .i64 0)), .iv (.g (.int .i64 0)), .iv (.g (.int .i64 0)), .iv (.g (.int .i64 0)), .iv (.g (.int .i64 0)), .iv (.g (.int .i64 0)), .iv (.g (.int .i64 0)), .iv (.g (.int .i64 0)), .iv (.g (.slice none 0 0)), .iv (.g (.slice none 0 0))] := by kernel_rfl
attribute [go_sem] fnok_33 fnok_44 fnok_46 fnok_47 fo_27 ty_27 zc_27
def sht0 : ShtS := ⟨0, 0, 0, ⟨0, 0, 0, 0, 0, 0, 0⟩, 0, 0, fun _ => 0, 0, fun _ => feat0⟩
def prt (N : NotS) (ch : Int) : PartS := N.p (prtJ N ch)
def mssB (s : ShtS) (P : PartS) : Bool := decide (∃ j, j < P.q ∧ hasL s.q s.dn (P.a j) = false)
def appE (s : ShtS) (N : NotS) : Int := if hasL s.q s.dn N.nu = true then 5 else if mssB s (prt N s.ch) = true then 16 else if 200 ≤ s.q then 2 else if apE s.n s.f (prt N s.ch).k (prt N s.ch).o ≠ 0 then 15 else 0
def edE (s : ShtS) (N : NotS) : Int := if N.kd ≠ 1 then 12 else if prtB N s.ch = false then 4 else appE s N
def edS (s : ShtS) (N : NotS) : ShtS := { s with q := s.q + 1, dn := dnI s.q s.dn N.nu, n := apN s.n s.f (prt N s.ch).k (prt N s.ch).o, f := apF s.n s.f (prt N s.ch).k (prt N s.ch).o }
def ApE (s : ShtS) (N : NotS) : Int := if (shtB s && notB N) = true then edE s N else 1
def ApS (s : ShtS) (N : NotS) : ShtS := if ApE s N = 0 then edS s N else sht0
theorem ApS_e {s : ShtS} {N : NotS} {e : Int} (h : ApE s N = e) (h0 : e ≠ 0) : ApS s N = sht0 ∧ ApE s N = e := ⟨by unfold ApS; rw [if_neg (by rw [h]; exact h0)], h⟩
theorem ApS_0 {s : ShtS} {N : NotS} (h : ApE s N = 0) : ApS s N = edS s N ∧ ApE s N = 0 := ⟨by unfold ApS; rw [if_pos h], h⟩
theorem Ap_arg {s : ShtS} {N : NotS} (h : shtB s = false ∨ notB N = false) : ApE s N = 1 := by unfold ApE; rcases h with h | h <;> simp [h]
theorem Ap_val {s : ShtS} {N : NotS} (h1 : shtB s = true) (h2 : notB N = true) : ApE s N = edE s N := by unfold ApE; simp [h1, h2]
theorem ed_12 {s : ShtS} {N : NotS} (h : N.kd ≠ 1) : edE s N = 12 := by unfold edE; rw [if_pos h]
theorem ed_4 {s : ShtS} {N : NotS} (h : N.kd = 1) (h2 : prtB N s.ch = false) : edE s N = 4 := by unfold edE; rw [if_neg (by omega), if_pos h2]
theorem ed_ap {s : ShtS} {N : NotS} (h : N.kd = 1) (h2 : prtB N s.ch = true) : edE s N = appE s N := by unfold edE; rw [if_neg (by omega), if_neg (by rw [h2]; simp)]
theorem ap_5 {s : ShtS} {N : NotS} (h : hasL s.q s.dn N.nu = true) : appE s N = 5 := by unfold appE; rw [if_pos h]
theorem ap_16 {s : ShtS} {N : NotS} (h : hasL s.q s.dn N.nu = false) {j : Nat} (hj : (j : Int) < (prt N s.ch).q) (h2 : hasL s.q s.dn ((prt N s.ch).a j) = false) : appE s N = 16 := by
  have hm : mssB s (prt N s.ch) = true := decide_eq_true ⟨j, by omega, h2⟩
  unfold appE; rw [if_neg (by rw [h]; simp), if_pos hm]
theorem mss_f {s : ShtS} {P : PartS} {j : Nat} (hj : (P.q : Int) ≤ j) (g : ∀ k, k < j → hasL s.q s.dn (P.a k) = true) : mssB s P = false := decide_eq_false fun ⟨k, h1, h2⟩ => by rw [g k (by omega)] at h2; cases h2
theorem ap_2 {s : ShtS} {N : NotS} (h : hasL s.q s.dn N.nu = false) (hm : mssB s (prt N s.ch) = false) (hq : (s.q : Int) ≥ 200) : appE s N = 2 := by
  unfold appE; rw [if_neg (by rw [h]; simp), if_neg (by rw [hm]; simp), if_pos (by omega)]
theorem ap_15 {s : ShtS} {N : NotS} (h : hasL s.q s.dn N.nu = false) (hm : mssB s (prt N s.ch) = false) (hq : (s.q : Int) < 200) (he : apE s.n s.f (prt N s.ch).k (prt N s.ch).o ≠ 0) : appE s N = 15 := by
  unfold appE; rw [if_neg (by rw [h]; simp), if_neg (by rw [hm]; simp), if_neg (by omega), if_pos he]
theorem ap_0 {s : ShtS} {N : NotS} (h : hasL s.q s.dn N.nu = false) (hm : mssB s (prt N s.ch) = false) (hq : (s.q : Int) < 200) (he : apE s.n s.f (prt N s.ch).k (prt N s.ch).o = 0) : appE s N = 0 := by
  unfold appE; rw [if_neg (by rw [h]; simp), if_neg (by rw [hm]; simp), if_neg (by omega), if_neg (by simp [he])]
theorem sht_q {s : ShtS} (h : shtB s = true) : s.q ≤ 200 ∧ s.n ≤ 300 ∧ (∀ i, i < s.q → aftO s.dn 10001 i) := by
  unfold shtB at h
  simp only [Bool.and_eq_true] at h
  have h1 := of_decide_eq_true h.1.1.1
  have h2 := of_decide_eq_true h.2
  exact ⟨h1.1, h2.1, h1.2⟩
end Go.Proofs.YtdhgiklbkmkblaaGreat
set_option maxRecDepth 100000
set_option maxHeartbeats 4000000
namespace Go.Proofs.YtdhgiklbkmkblaaGreat
open Go.ChangeShapes Go.WideShapes Go.ChangeAt Go.RowKit Go.Joins Go.Deep Go.Sea
theorem rd_g {w : World} {Z : Nat → Prop} {v u : Value} (h : Rd w Z v (.g u)) : v = u := by cases h; rfl
abbrev Zw (w : World) : Nat → Prop := fun b => b < w.heap.size
section
variable {H : Type} {enc : TypeId × Value → H} {w : World} {base : Nat} {spare : Nat → Bool} {held : Bool} {r : Reach} {b0 : Nat} {v : Value} {d : DataW H} {p : List MemPlace}
theorem spot_none {a : Addr} {j : Nat} {x : Value} (h : w.cell? (a.add j) = some x) (h0 : j = 0 ∨ a.spot = none) : a.spot = none := by
  rcases h0 with rfl | h0
  · obtain ⟨ab, ao, sub⟩ := a
    cases sub with
    | none => rfl
    | some y =>
      exfalso
      simp [Addr.add, World.cell?] at h
      split at h <;> simp at h
  · exact h0
theorem rd_slice {t e : TypeId} (ht : Tryz.prog.underlying t = some (.slice e)) {E : Nat} (hE : Tryz.prog.cellsOf e = E) (h0 : 0 < E) {α : Type} [Inhabited α] (F : α → Nat → IV)
    (el : ∀ (n : Nat) (cs : List Value) (y : DataW H × List MemPlace), DataW.trod enc Tryz.prog w base spare held n e cs = some y → cs.length = E → ∃ z : α, ∀ (o : Nat) v, cs[o]? = some v → Rd w (Zw w) v (F z o))
    {c : Value} {n : Nat} {y : DataW H × List MemPlace} (h : DataW.trod enc Tryz.prog w base spare held n t [c] = some y) : ∃ (k : Nat) (Z : Nat → α), k ≤ 9223372036854775807 ∧ Rd w (Zw w) c (.lst E k fun i o => F (Z i) o) := by
  rcases open_slice ht h with ⟨e, _⟩ | ⟨a, len, cap, m, n', D, Pl, e, hb, hl, hm, hmm, _, hx⟩
  · simp at e; subst e
    exact ⟨0, fun _ => default, Nat.zero_le _, .nil _ _ _ _⟩
  · simp at e
    subst e
    rw [hE] at hx
    have hlm : len ≤ m := by rw [hmm]; split <;> omega
    have each : ∀ i, i < len → ∃ q : α × (Nat → Value), ∀ o, o < E → w.cell? (a.add (i * E + o)) = some (q.2 o) ∧ Rd w (Zw w) (q.2 o) (F q.1 o) := fun i hi => by
      obtain ⟨cs', h1, h2⟩ := hx i (by omega)
      obtain ⟨_, hlen, hcell⟩ := World.cells?_some h1
      obtain ⟨z, hz⟩ := el _ _ _ h2 hlen
      refine ⟨(z, fun o => cs'.getD o undef), fun o ho => ?_⟩
      have h3 := hcell o ho
      rw [add_add] at h3
      have h4 : cs'[o]? = some (cs'.getD o undef) := by simp [List.getD, show o < cs'.length by omega]
      rw [h4] at h3
      exact ⟨h3, hz o _ h4⟩
    obtain ⟨Q, hQ⟩ := choose_lt each
    refine ⟨len, fun i => (Q i).1, by unfold maxLen at hm; omega, ?_⟩
    rcases Nat.eq_zero_or_pos len with hz | hpos
    · subst hz; exact .nil _ _ _ _
    · have hs := spot_none (hQ 0 hpos 0 h0).1 (Or.inl (by omega))
      obtain ⟨ab, ao, sub⟩ := a
      simp only at hs
      subst hs
      have hlt : ab < w.heap.size := by
        have := World.block_lt_of_cell? w _ (hQ 0 hpos 0 h0).1
        rwa [Addr.add_lit] at this
      refine .lst ab ao len cap E _ (fun i o => (Q i).2 o) hlt hl hm (fun i o hi' ho => ?_) fun i o hi' ho => (hQ i hi' o ho).2
      have := (hQ i hi' o ho).1
      rw [Addr.add_lit] at this
      rw [Nat.add_assoc]; exact this
theorem cells3 : Tryz.prog.cellsOf 3 = 1 := by kernel_rfl
theorem int_cell {n : Nat} {cs : List Value} {y : DataW H × List MemPlace} (h : DataW.trod enc Tryz.prog w base spare held n 3 cs = some y) (hl : cs.length = 1) : ∃ z : Int, ∀ (o : Nat) v, cs[o]? = some v → Rd w (Zw w) v (.g (.int .i64 z)) := by
  obtain ⟨z, e, _, _⟩ := DataW.trod_int Tryz.underlying3 h
  subst e
  refine ⟨z, fun o v hv => ?_⟩
  rcases o with _ | o
  · simp at hv; subst hv; exact .g _ rfl
  · simp at hv
theorem open_ints' {c : Value} {n : Nat} {y : DataW H × List MemPlace} (h : DataW.trod enc Tryz.prog w base spare held n 24 [c] = some y) : ∃ (k : Nat) (s : Nat → Int), k ≤ 9223372036854775807 ∧ Rd w (Zw w) c (.lst 1 k (intI s)) :=
  rd_slice Tryz.underlying24 cells3 (by omega) (fun z _ => .g (.int .i64 z)) (fun n cs y h hl => int_cell h hl) h
theorem cell_at {cs : List Value} {k : Nat} {v c : Value} (h : (cs.drop k).take 1 = [c]) (hv : cs[k]? = some v) : v = c := by
  have h1 : ((cs.drop k).take 1)[0]? = some c := by rw [h]; rfl
  rw [List.getElem?_take, if_pos (by omega), List.getElem?_drop, Nat.add_zero, hv] at h1
  exact Option.some.inj h1
theorem sub_at {cs : List Value} {k m o : Nat} {v : Value} (ho : o < m) (hv : cs[k + o]? = some v) : ((cs.drop k).take m)[o]? = some v := by
  rw [List.getElem?_take, if_pos ho, List.getElem?_drop]; exact hv
theorem fld {t : TypeId} {fs : Array Field} {n : Nat} {cs : List Value} {y : DataW H × List MemPlace} (ht : Tryz.prog.underlying t = some (.struct fs)) (h : DataW.trod enc Tryz.prog w base spare held n t cs = some y) (i : Nat) {f : Field} (hf : fs[i]? = some f) {T k m : Nat} (hT : f.type = T) (hk : f.offset = k) (hm : Tryz.prog.cellsOf T = m) :
    cs.length = Tryz.prog.cellsOf t ∧ ∃ n' y', DataW.trod enc Tryz.prog w base spare held n' T ((cs.drop k).take m) = some y' := by
  obtain ⟨xs, n', _, _, hl, hlen, hx⟩ := DataW.trod_struct ht h
  have h1 := hx i f hf
  rw [hT, hk, hm] at h1
  have hi : i < xs.length := by
    rw [hlen]
    have := (Array.getElem?_eq_some_iff.1 hf)
    exact this.1
  rw [List.getElem?_eq_getElem hi] at h1
  exact ⟨hl, n', _, h1⟩
theorem fld_int {t : TypeId} {fs : Array Field} {n : Nat} {cs : List Value} {y : DataW H × List MemPlace} (ht : Tryz.prog.underlying t = some (.struct fs)) (h : DataW.trod enc Tryz.prog w base spare held n t cs = some y) (i : Nat) {f : Field} (hf : fs[i]? = some f) (hT : f.type = 3) {k : Nat} (hk : f.offset = k) :
    ∃ a : Int, ∀ v, cs[k]? = some v → Rd w (Zw w) v (.g (.int .i64 a)) := by
  obtain ⟨_, n', y', g⟩ := fld ht h i hf hT hk cells3
  obtain ⟨a, e, _, _⟩ := DataW.trod_int Tryz.underlying3 g
  exact ⟨a, fun v hv => by rw [cell_at e hv]; exact .g _ rfl⟩
theorem sl_one {t e : TypeId} (ht : Tryz.prog.underlying t = some (.slice e)) {n : Nat} {cs : List Value} {k : Nat} {y : DataW H × List MemPlace} (h : DataW.trod enc Tryz.prog w base spare held n t ((cs.drop k).take 1) = some y) : ∃ c, DataW.trod enc Tryz.prog w base spare held n t [c] = some y ∧ ∀ v, cs[k]? = some v → v = c := by
  obtain ⟨a, l, c, e⟩ := slice_form ht h
  exact ⟨_, by rw [e] at h; exact h, fun v hv => cell_at e hv⟩
abbrev FeatK : Type := {f : Feat // f.Ok}
abbrev OpK : Type := {o : OpS // o.f.Ok}
abbrev PartK : Type := {p : PartS // p.Ok}
abbrev NotK : Type := {p : NotS // p.Ok}
instance : Inhabited FeatK := ⟨⟨feat0, feat0_ok⟩⟩
instance : Inhabited OpK := ⟨⟨zOp 0 0, feat0_ok⟩⟩
instance : Inhabited PartK := ⟨⟨⟨0, 0, fun _ => 0, 0, fun _ => zOp 0 0⟩, Nat.zero_le _, Nat.zero_le _, fun _ h => absurd h (Nat.not_lt_zero _)⟩⟩
instance : Inhabited NotK := ⟨⟨⟨0, 0, 0, 0, 0, 0, 0, fun _ => ⟨0, 0, fun _ => 0, 0, fun _ => zOp 0 0⟩⟩, Nat.zero_le _, fun _ h => absurd h (Nat.not_lt_zero _)⟩⟩
theorem cells24 : Tryz.prog.cellsOf 24 = 1 := by kernel_rfl
theorem cells72 : Tryz.prog.cellsOf 72 = 1 := by kernel_rfl
theorem cells73 : Tryz.prog.cellsOf 73 = 1 := by kernel_rfl
theorem cells25 : Tryz.prog.cellsOf 25 = 1 := by kernel_rfl
theorem cells46 : Tryz.prog.cellsOf 46 = 1 := by kernel_rfl
theorem cells28 : Tryz.prog.cellsOf 28 = 1 := by kernel_rfl
theorem cellspt : Tryz.prog.cellsOf 71 = 2 := by kernel_rfl
theorem pt_cells {n : Nat} {cs : List Value} {y : DataW H × List MemPlace} (h : DataW.trod enc Tryz.prog w base spare held n 71 cs = some y) : ∃ z : Nat → Int, ∀ (o : Nat) v, cs[o]? = some v → Rd w (Zw w) v (.g (.int .i64 (z o))) := by
  have hlen : cs.length = 2 := by rw [(fld Tryz.underlying71 h 0 rfl rfl rfl rfl).1, cellspt]
  obtain ⟨a, ca⟩ := fld_int Tryz.underlying71 h 0 rfl rfl rfl (k := 0)
  obtain ⟨b, cb⟩ := fld_int Tryz.underlying71 h 1 rfl rfl rfl (k := 1)
  refine ⟨fun o => match o with | 0 => a | _ => b, fun o v hv => ?_⟩
  match o, hv with
  | 0, hv => exact ca _ hv
  | 1, hv => exact cb _ hv
  | o + 2, hv => rw [List.getElem?_eq_none (by omega)] at hv; cases hv
theorem cellssec : Tryz.prog.cellsOf 152 = 6 := by kernel_rfl
theorem sec_cells {n : Nat} {cs : List Value} {y : DataW H × List MemPlace} (h : DataW.trod enc Tryz.prog w base spare held n 152 cs = some y) : ∃ z : Nat → Int, ∀ (o : Nat) v, cs[o]? = some v → Rd w (Zw w) v (.g (.int .i64 (z o))) := by
  have hlen : cs.length = 6 := by rw [(fld Tryz.underlying152 h 0 rfl rfl rfl rfl).1, cellssec]
  obtain ⟨_, n0, y0, g0⟩ := fld Tryz.underlying152 h 0 rfl rfl rfl (k := 0) (T := 71) cellspt
  obtain ⟨p, r0⟩ := pt_cells g0
  obtain ⟨_, n1, y1, g1⟩ := fld Tryz.underlying152 h 1 rfl rfl rfl (k := 2) (T := 71) cellspt
  obtain ⟨q, r1⟩ := pt_cells g1
  obtain ⟨c, cc⟩ := fld_int Tryz.underlying152 h 2 rfl rfl rfl (k := 4)
  obtain ⟨d, cd⟩ := fld_int Tryz.underlying152 h 3 rfl rfl rfl (k := 5)
  refine ⟨fun o => match o with | 0 => p 0 | 1 => p 1 | 2 => q 0 | 3 => q 1 | 4 => c | _ => d, fun o v hv => ?_⟩
  match o, hv with
  | 0, hv => exact r0 0 _ (sub_at (by omega) hv)
  | 1, hv => exact r0 1 _ (sub_at (by omega) hv)
  | 2, hv => exact r1 0 _ (sub_at (by omega) hv)
  | 3, hv => exact r1 1 _ (sub_at (by omega) hv)
  | 4, hv => exact cc _ hv
  | 5, hv => exact cd _ hv
  | o + 6, hv => rw [List.getElem?_eq_none (by omega)] at hv; cases hv
theorem cellsdat : Tryz.prog.cellsOf 23 = 7 := by kernel_rfl
theorem dat_cells {n : Nat} {cs : List Value} {y : DataW H × List MemPlace} (h : DataW.trod enc Tryz.prog w base spare held n 23 cs = some y) : ∃ z : Nat → Int, ∀ (o : Nat) v, cs[o]? = some v → Rd w (Zw w) v (.g (.int .i64 (z o))) := by
  have hlen : cs.length = 7 := by rw [(fld Tryz.underlying23 h 0 rfl rfl rfl rfl).1, cellsdat]
  obtain ⟨a0, ca0⟩ := fld_int Tryz.underlying23 h 0 rfl rfl rfl (k := 0)
  obtain ⟨a1, ca1⟩ := fld_int Tryz.underlying23 h 1 rfl rfl rfl (k := 1)
  obtain ⟨a2, ca2⟩ := fld_int Tryz.underlying23 h 2 rfl rfl rfl (k := 2)
  obtain ⟨a3, ca3⟩ := fld_int Tryz.underlying23 h 3 rfl rfl rfl (k := 3)
  obtain ⟨a4, ca4⟩ := fld_int Tryz.underlying23 h 4 rfl rfl rfl (k := 4)
  obtain ⟨a5, ca5⟩ := fld_int Tryz.underlying23 h 5 rfl rfl rfl (k := 5)
  obtain ⟨a6, ca6⟩ := fld_int Tryz.underlying23 h 6 rfl rfl rfl (k := 6)
  refine ⟨fun o => match o with | 0 => a0 | 1 => a1 | 2 => a2 | 3 => a3 | 4 => a4 | 5 => a5 | _ => a6, fun o v hv => ?_⟩
  match o, hv with
  | 0, hv => exact ca0 _ hv
  | 1, hv => exact ca1 _ hv
  | 2, hv => exact ca2 _ hv
  | 3, hv => exact ca3 _ hv
  | 4, hv => exact ca4 _ hv
  | 5, hv => exact ca5 _ hv
  | 6, hv => exact ca6 _ hv
  | o + 7, hv => rw [List.getElem?_eq_none (by omega)] at hv; cases hv
theorem open_pts {c : Value} {n : Nat} {y : DataW H × List MemPlace} (h : DataW.trod enc Tryz.prog w base spare held n 72 [c] = some y) : ∃ (k : Nat) (s : Nat → (Nat → Int)), k ≤ 9223372036854775807 ∧ Rd w (Zw w) c (.lst 2 k (ptI s)) :=
  rd_slice Tryz.underlying72 cellspt (by omega) (fun (z : Nat → Int) o => .g (.int .i64 (z o))) (fun n cs y h hl => pt_cells h) h
theorem open_secs {c : Value} {n : Nat} {y : DataW H × List MemPlace} (h : DataW.trod enc Tryz.prog w base spare held n 73 [c] = some y) : ∃ (k : Nat) (s : Nat → (Nat → Int)), k ≤ 9223372036854775807 ∧ Rd w (Zw w) c (.lst 6 k (ptI s)) :=
  rd_slice Tryz.underlying73 cellssec (by omega) (fun (z : Nat → Int) o => .g (.int .i64 (z o))) (fun n cs y h hl => sec_cells h) h
theorem cellsfeat : Tryz.prog.cellsOf 75 = 9 := by kernel_rfl
theorem feat_cells {n : Nat} {cs : List Value} {y : DataW H × List MemPlace} (h : DataW.trod enc Tryz.prog w base spare held n 75 cs = some y) : ∃ z : FeatK, ∀ (o : Nat) v, cs[o]? = some v → Rd w (Zw w) v (featG z.1 o) := by
  have hlen : cs.length = 9 := by rw [(fld Tryz.underlying75 h 0 rfl rfl rfl rfl).1, cellsfeat]
  obtain ⟨a0, ca0⟩ := fld_int Tryz.underlying75 h 0 rfl rfl rfl (k := 0)
  obtain ⟨a1, ca1⟩ := fld_int Tryz.underlying75 h 1 rfl rfl rfl (k := 1)
  obtain ⟨_, n2, y2, g2⟩ := fld Tryz.underlying75 h 2 rfl rfl rfl (k := 2) (T := 71) cellspt
  obtain ⟨p, r2⟩ := pt_cells g2
  obtain ⟨a3, ca3⟩ := fld_int Tryz.underlying75 h 3 rfl rfl rfl (k := 4)
  obtain ⟨_, n4, y4, g4⟩ := fld Tryz.underlying75 h 4 rfl rfl rfl (k := 5) (T := 72) cells72
  obtain ⟨c4, k4, e4⟩ := sl_one Tryz.underlying72 g4
  obtain ⟨m4, s4, b4, r4⟩ := open_pts k4
  obtain ⟨a5, ca5⟩ := fld_int Tryz.underlying75 h 5 rfl rfl rfl (k := 6)
  obtain ⟨a6, ca6⟩ := fld_int Tryz.underlying75 h 6 rfl rfl rfl (k := 7)
  obtain ⟨_, n7, y7, g7⟩ := fld Tryz.underlying75 h 7 rfl rfl rfl (k := 8) (T := 73) cells73
  obtain ⟨c7, k7, e7⟩ := sl_one Tryz.underlying73 g7
  obtain ⟨m7, s7, b7, r7⟩ := open_secs k7
  refine ⟨⟨⟨a0, a1, p 0, p 1, a3, m4, s4, a5, a6, m7, s7⟩, b4, b7⟩, fun o v hv => ?_⟩
  match o, hv with
  | 0, hv => exact ca0 _ hv
  | 1, hv => exact ca1 _ hv
  | 2, hv => exact r2 0 _ (sub_at (by omega) hv)
  | 3, hv => exact r2 1 _ (sub_at (by omega) hv)
  | 4, hv => exact ca3 _ hv
  | 5, hv => rw [e4 _ hv]; exact r4
  | 6, hv => exact ca5 _ hv
  | 7, hv => exact ca6 _ hv
  | 8, hv => rw [e7 _ hv]; exact r7
  | o + 9, hv => rw [List.getElem?_eq_none (by omega)] at hv; cases hv
theorem cellsop : Tryz.prog.cellsOf 91 = 16 := by kernel_rfl
theorem op_cells {n : Nat} {cs : List Value} {y : DataW H × List MemPlace} (h : DataW.trod enc Tryz.prog w base spare held n 91 cs = some y) : ∃ z : OpK, ∀ (o : Nat) v, cs[o]? = some v → Rd w (Zw w) v (oprG z.1 o) := by
  have hlen : cs.length = 16 := by rw [(fld Tryz.underlying91 h 0 rfl rfl rfl rfl).1, cellsop]
  obtain ⟨a0, ca0⟩ := fld_int Tryz.underlying91 h 0 rfl rfl rfl (k := 0)
  obtain ⟨a1, ca1⟩ := fld_int Tryz.underlying91 h 1 rfl rfl rfl (k := 1)
  obtain ⟨_, n2, y2, g2⟩ := fld Tryz.underlying91 h 2 rfl rfl rfl (k := 2) (T := 75) cellsfeat
  obtain ⟨f, r2⟩ := feat_cells g2
  obtain ⟨_, n3, y3, g3⟩ := fld Tryz.underlying91 h 3 rfl rfl rfl (k := 11) (T := 71) cellspt
  obtain ⟨p, r3⟩ := pt_cells g3
  obtain ⟨a4, ca4⟩ := fld_int Tryz.underlying91 h 4 rfl rfl rfl (k := 13)
  obtain ⟨a5, ca5⟩ := fld_int Tryz.underlying91 h 5 rfl rfl rfl (k := 14)
  obtain ⟨a6, ca6⟩ := fld_int Tryz.underlying91 h 6 rfl rfl rfl (k := 15)
  refine ⟨⟨⟨a0, a1, f.1, p 0, p 1, a4, a5, a6⟩, f.2⟩, fun o v hv => ?_⟩
  match o, hv with
  | 0, hv => exact ca0 _ hv
  | 1, hv => exact ca1 _ hv
  | 2, hv => exact r2 0 _ (sub_at (by omega) hv)
  | 3, hv => exact r2 1 _ (sub_at (by omega) hv)
  | 4, hv => exact r2 2 _ (sub_at (by omega) hv)
  | 5, hv => exact r2 3 _ (sub_at (by omega) hv)
  | 6, hv => exact r2 4 _ (sub_at (by omega) hv)
  | 7, hv => exact r2 5 _ (sub_at (by omega) hv)
  | 8, hv => exact r2 6 _ (sub_at (by omega) hv)
  | 9, hv => exact r2 7 _ (sub_at (by omega) hv)
  | 10, hv => exact r2 8 _ (sub_at (by omega) hv)
  | 11, hv => exact r3 0 _ (sub_at (by omega) hv)
  | 12, hv => exact r3 1 _ (sub_at (by omega) hv)
  | 13, hv => exact ca4 _ hv
  | 14, hv => exact ca5 _ hv
  | 15, hv => exact ca6 _ hv
  | o + 16, hv => rw [List.getElem?_eq_none (by omega)] at hv; cases hv
theorem open_fea {c : Value} {n : Nat} {y : DataW H × List MemPlace} (h : DataW.trod enc Tryz.prog w base spare held n 25 [c] = some y) : ∃ (k : Nat) (s : Nat → FeatK), k ≤ 9223372036854775807 ∧ Rd w (Zw w) c (.lst 9 k (featF fun i => (s i).1)) :=
  rd_slice Tryz.underlying25 cellsfeat (by omega) (fun (z : FeatK) o => featG z.1 o) (fun n cs y h hl => feat_cells h) h
theorem open_ops {c : Value} {n : Nat} {y : DataW H × List MemPlace} (h : DataW.trod enc Tryz.prog w base spare held n 46 [c] = some y) : ∃ (k : Nat) (s : Nat → OpK), k ≤ 9223372036854775807 ∧ Rd w (Zw w) c (.lst 16 k (oprF fun i => (s i).1)) :=
  rd_slice Tryz.underlying46 cellsop (by omega) (fun (z : OpK) o => oprG z.1 o) (fun n cs y h hl => op_cells h) h
theorem cellspart : Tryz.prog.cellsOf 58 = 3 := by kernel_rfl
theorem part_cells {n : Nat} {cs : List Value} {y : DataW H × List MemPlace} (h : DataW.trod enc Tryz.prog w base spare held n 58 cs = some y) : ∃ z : PartK, ∀ (o : Nat) v, cs[o]? = some v → Rd w (Zw w) v (partG z.1 o) := by
  have hlen : cs.length = 3 := by rw [(fld Tryz.underlying58 h 0 rfl rfl rfl rfl).1, cellspart]
  obtain ⟨a0, ca0⟩ := fld_int Tryz.underlying58 h 0 rfl rfl rfl (k := 0)
  obtain ⟨_, n1, y1, g1⟩ := fld Tryz.underlying58 h 1 rfl rfl rfl (k := 1) (T := 24) cells24
  obtain ⟨c1, k1, e1⟩ := sl_one Tryz.underlying24 g1
  obtain ⟨q, a, b1, r1⟩ := open_ints' k1
  obtain ⟨_, n2, y2, g2⟩ := fld Tryz.underlying58 h 2 rfl rfl rfl (k := 2) (T := 46) cells46
  obtain ⟨c2, k2, e2⟩ := sl_one Tryz.underlying46 g2
  obtain ⟨k, s, b2, r2⟩ := open_ops k2
  refine ⟨⟨⟨a0, q, a, k, fun i => (s i).1⟩, b1, b2, fun i _ => (s i).2⟩, fun o v hv => ?_⟩
  match o, hv with
  | 0, hv => exact ca0 _ hv
  | 1, hv => rw [e1 _ hv]; exact r1
  | 2, hv => rw [e2 _ hv]; exact r2
  | o + 3, hv => rw [List.getElem?_eq_none (by omega)] at hv; cases hv
theorem open_parts {c : Value} {n : Nat} {y : DataW H × List MemPlace} (h : DataW.trod enc Tryz.prog w base spare held n 28 [c] = some y) : ∃ (k : Nat) (s : Nat → PartK), k ≤ 9223372036854775807 ∧ Rd w (Zw w) c (.lst 3 k (partF fun i => (s i).1)) :=
  rd_slice Tryz.underlying28 cellspart (by omega) (fun (z : PartK) o => partG z.1 o) (fun n cs y h hl => part_cells h) h
theorem cellsnot : Tryz.prog.cellsOf 30 = 7 := by kernel_rfl
theorem not_cells {n : Nat} {cs : List Value} {y : DataW H × List MemPlace} (h : DataW.trod enc Tryz.prog w base spare held n 30 cs = some y) : ∃ z : NotK, ∀ (o : Nat) v, cs[o]? = some v → Rd w (Zw w) v (notG z.1 o) := by
  have hlen : cs.length = 7 := by rw [(fld Tryz.underlying30 h 0 rfl rfl rfl rfl).1, cellsnot]
  obtain ⟨a0, ca0⟩ := fld_int Tryz.underlying30 h 0 rfl rfl rfl (k := 0)
  obtain ⟨a1, ca1⟩ := fld_int Tryz.underlying30 h 1 rfl rfl rfl (k := 1)
  obtain ⟨a2, ca2⟩ := fld_int Tryz.underlying30 h 2 rfl rfl rfl (k := 2)
  obtain ⟨a3, ca3⟩ := fld_int Tryz.underlying30 h 3 rfl rfl rfl (k := 3)
  obtain ⟨a4, ca4⟩ := fld_int Tryz.underlying30 h 4 rfl rfl rfl (k := 4)
  obtain ⟨a5, ca5⟩ := fld_int Tryz.underlying30 h 5 rfl rfl rfl (k := 5)
  obtain ⟨_, n6, y6, g6⟩ := fld Tryz.underlying30 h 6 rfl rfl rfl (k := 6) (T := 28) cells28
  obtain ⟨c6, k6, e6⟩ := sl_one Tryz.underlying28 g6
  obtain ⟨k, s, b6, r6⟩ := open_parts k6
  refine ⟨⟨⟨a0, a1, a2, a3, a4, a5, k, fun i => (s i).1⟩, ⟨b6, fun i _ => (s i).2⟩⟩, fun o v hv => ?_⟩
  match o, hv with
  | 0, hv => exact ca0 _ hv
  | 1, hv => exact ca1 _ hv
  | 2, hv => exact ca2 _ hv
  | 3, hv => exact ca3 _ hv
  | 4, hv => exact ca4 _ hv
  | 5, hv => exact ca5 _ hv
  | 6, hv => rw [e6 _ hv]; exact r6
  | o + 7, hv => rw [List.getElem?_eq_none (by omega)] at hv; cases hv
theorem open_nots' {c : Value} {n : Nat} {y : DataW H × List MemPlace} (h : DataW.trod enc Tryz.prog w base spare held n 31 [c] = some y) : ∃ (k : Nat) (s : Nat → NotK), k ≤ 9223372036854775807 ∧ Rd w (Zw w) c (.lst 7 k (notF fun i => (s i).1)) :=
  rd_slice Tryz.underlying31 cellsnot (by omega) (fun (z : NotK) o => notG z.1 o) (fun n cs y h hl => not_cells h) h
theorem cellssht : Tryz.prog.cellsOf 27 = 13 := by kernel_rfl
theorem sht_cells {n : Nat} {cs : List Value} {y : DataW H × List MemPlace} (h : DataW.trod enc Tryz.prog w base spare held n 27 cs = some y) : ∃ z : ShtS, z.Ok ∧ ∀ (o : Nat) v, cs[o]? = some v → Rd w (Zw w) v (match o with | 0 => .g (.int .i64 z.ch) | 1 => .g (.int .i64 z.sc) | 2 => .g (.int .i64 z.ed) | 3 => .g (.int .i64 z.m.A) | 4 => .g (.int .i64 z.m.B) | 5 => .g (.int .i64 z.m.C) | 6 => .g (.int .i64 z.m.D) | 7 => .g (.int .i64 z.m.E) | 8 => .g (.int .i64 z.m.F) | 9 => .g (.int .i64 z.m.R) | 10 => .g (.int .i64 z.cap) | 11 => .lst 1 z.q (intI z.dn) | _ => .lst 9 z.n (featF z.f)) := by
  have hlen : cs.length = 13 := by rw [(fld Tryz.underlying27 h 0 rfl rfl rfl rfl).1, cellssht]
  obtain ⟨a0, ca0⟩ := fld_int Tryz.underlying27 h 0 rfl rfl rfl (k := 0)
  obtain ⟨a1, ca1⟩ := fld_int Tryz.underlying27 h 1 rfl rfl rfl (k := 1)
  obtain ⟨a2, ca2⟩ := fld_int Tryz.underlying27 h 2 rfl rfl rfl (k := 2)
  obtain ⟨_, n3, y3, g3⟩ := fld Tryz.underlying27 h 3 rfl rfl rfl (k := 3) (T := 23) cellsdat
  obtain ⟨m, r3⟩ := dat_cells g3
  obtain ⟨a4, ca4⟩ := fld_int Tryz.underlying27 h 4 rfl rfl rfl (k := 10)
  obtain ⟨_, n5, y5, g5⟩ := fld Tryz.underlying27 h 5 rfl rfl rfl (k := 11) (T := 24) cells24
  obtain ⟨c5, k5, e5⟩ := sl_one Tryz.underlying24 g5
  obtain ⟨q, a, b1, r5⟩ := open_ints' k5
  obtain ⟨_, n6, y6, g6⟩ := fld Tryz.underlying27 h 6 rfl rfl rfl (k := 12) (T := 25) cells25
  obtain ⟨c6, k6, e6⟩ := sl_one Tryz.underlying25 g6
  obtain ⟨k, s, b2, r6⟩ := open_fea k6
  refine ⟨⟨a0, a1, a2, ⟨m 0, m 1, m 2, m 3, m 4, m 5, m 6⟩, a4, q, a, k, fun i => (s i).1⟩, ⟨b1, b2, fun i _ => (s i).2⟩, fun o v hv => ?_⟩
  match o, hv with
  | 0, hv => exact ca0 _ hv
  | 1, hv => exact ca1 _ hv
  | 2, hv => exact ca2 _ hv
  | 3, hv => exact r3 0 _ (sub_at (by omega) hv)
  | 4, hv => exact r3 1 _ (sub_at (by omega) hv)
  | 5, hv => exact r3 2 _ (sub_at (by omega) hv)
  | 6, hv => exact r3 3 _ (sub_at (by omega) hv)
  | 7, hv => exact r3 4 _ (sub_at (by omega) hv)
  | 8, hv => exact r3 5 _ (sub_at (by omega) hv)
  | 9, hv => exact r3 6 _ (sub_at (by omega) hv)
  | 10, hv => exact ca4 _ hv
  | 11, hv => rw [e5 _ hv]; exact r5
  | 12, hv => rw [e6 _ hv]; exact r6
  | o + 13, hv => rw [List.getElem?_eq_none (by omega)] at hv; cases hv
theorem array7' {α : Type} {cs : Array α} (h : cs.size = 7) : ∃ c0 c1 c2 c3 c4 c5 c6, cs = #[c0, c1, c2, c3, c4, c5, c6] := by
  obtain ⟨l⟩ := cs
  match l, h with
  | [c0, c1, c2, c3, c4, c5, c6], _ => exact ⟨c0, c1, c2, c3, c4, c5, c6, rfl⟩
theorem array13' {α : Type} {cs : Array α} (h : cs.size = 13) : ∃ c0 c1 c2 c3 c4 c5 c6 c7 c8 c9 c10 c11 c12, cs = #[c0, c1, c2, c3, c4, c5, c6, c7, c8, c9, c10, c11, c12] := by
  obtain ⟨l⟩ := cs
  match l, h with
  | [c0, c1, c2, c3, c4, c5, c6, c7, c8, c9, c10, c11, c12], _ => exact ⟨c0, c1, c2, c3, c4, c5, c6, c7, c8, c9, c10, c11, c12, rfl⟩
theorem open_not (hv : Value.okWide Tryz.prog w r b0 30 v) (h : DataW.Trod enc Tryz.prog w base spare held 30 v d p) : ∃ z : NotS, z.Ok ∧ PTRel w (Zw w) v (.agg [.g (.int .i64 z.oc), .g (.int .i64 z.nu), .g (.int .i64 z.kd), .g (.int .i64 z.fr), .g (.int .i64 z.un), .g (.int .i64 z.ca), .lst 3 z.n (partF z.p)]) := by
  obtain ⟨cs, rfl, hsz⟩ := okWide_struct Tryz.underlying30 hv
  obtain ⟨c0, c1, c2, c3, c4, c5, c6, rfl⟩ := array7' (hsz.trans cellsnot)
  obtain ⟨fuel, hf⟩ := h
  obtain ⟨⟨z, hN⟩, hz⟩ := not_cells (cs := [c0, c1, c2, c3, c4, c5, c6]) (by simpa [Value.cells] using hf)
  exact ⟨z, hN, _, rfl, hz 0 c0 rfl, hz 1 c1 rfl, hz 2 c2 rfl, hz 3 c3 rfl, hz 4 c4 rfl, hz 5 c5 rfl, hz 6 c6 rfl, trivial⟩
theorem open_sheet (hv : Value.okWide Tryz.prog w r b0 27 v) (h : DataW.Trod enc Tryz.prog w base spare held 27 v d p) : ∃ z : ShtS, z.Ok ∧ PTRel w (Zw w) v (.agg [.g (.int .i64 z.ch), .g (.int .i64 z.sc), .g (.int .i64 z.ed), .g (.int .i64 z.m.A), .g (.int .i64 z.m.B), .g (.int .i64 z.m.C), .g (.int .i64 z.m.D), .g (.int .i64 z.m.E), .g (.int .i64 z.m.F), .g (.int .i64 z.m.R), .g (.int .i64 z.cap), .lst 1 z.q (intI z.dn), .lst 9 z.n (featF z.f)]) := by
  obtain ⟨cs, rfl, hsz⟩ := okWide_struct Tryz.underlying27 hv
  obtain ⟨c0, c1, c2, c3, c4, c5, c6, c7, c8, c9, c10, c11, c12, rfl⟩ := array13' (hsz.trans cellssht)
  obtain ⟨fuel, hf⟩ := h
  obtain ⟨z, hN, hz⟩ := sht_cells (cs := [c0, c1, c2, c3, c4, c5, c6, c7, c8, c9, c10, c11, c12]) (by simpa [Value.cells] using hf)
  exact ⟨z, hN, _, rfl, hz 0 c0 rfl, hz 1 c1 rfl, hz 2 c2 rfl, hz 3 c3 rfl, hz 4 c4 rfl, hz 5 c5 rfl, hz 6 c6 rfl, hz 7 c7 rfl, hz 8 c8 rfl, hz 9 c9 rfl, hz 10 c10 rfl, hz 11 c11 rfl, hz 12 c12 rfl, trivial⟩
theorem open_u8i (hv : Value.okWide Tryz.prog w r b0 5 v) (h : DataW.Trod enc Tryz.prog w base spare held 5 v d p) : ∃ x : Int, v = .int .u8 x ∧ (0 ≤ x ∧ x ≤ 255) := by
  obtain ⟨x, hx, _, _, wx⟩ := open_int Tryz.underlying5 hv h
  refine ⟨x, hx, ?_⟩
  simp [Lit.wf, IntKind.min, IntKind.max, IntKind.signed, IntKind.bits] at wx
  omega
theorem open_nots (hv : Value.okWide Tryz.prog w r b0 31 v) (h : DataW.Trod enc Tryz.prog w base spare held 31 v d p) : ∃ (k : Nat) (s : Nat → NotS), (k ≤ 9223372036854775807 ∧ ∀ i, i < k → (s i).Ok) ∧ PTRel w (Zw w) v (.one (.lst 7 k (notF s))) := by
  obtain ⟨p0, len, cap, rfl⟩ := okWide_slice Tryz.underlying31 hv
  obtain ⟨fuel, hf⟩ := h
  obtain ⟨k, s, hk, hz⟩ := open_nots' (by simpa [Value.cells] using hf)
  exact ⟨k, fun i => (s i).1, ⟨hk, fun i _ => (s i).2⟩, hz⟩
end
end Go.Proofs.YtdhgiklbkmkblaaGreat
