/- Part 14 of 16: contracts of functions and plain laws for the root text. No condition. -/
import Derived.Test.YtdhgiklbkmkblaaGreatK01
import Derived.Test.YtdhgiklbkmkblaaGreatK02
import Derived.Test.YtdhgiklbkmkblaaGreatK03
import Derived.Test.YtdhgiklbkmkblaaGreatK04
import Derived.Test.YtdhgiklbkmkblaaGreatK05
import Derived.Test.YtdhgiklbkmkblaaGreatK06
import Derived.Test.YtdhgiklbkmkblaaGreatK07
import Derived.Test.YtdhgiklbkmkblaaGreatK08
import Derived.Test.YtdhgiklbkmkblaaGreatK09
import Derived.Test.YtdhgiklbkmkblaaGreatK10
import Derived.Test.YtdhgiklbkmkblaaGreatK11
import Derived.Test.YtdhgiklbkmkblaaGreatK12
import Derived.Test.YtdhgiklbkmkblaaGreatK13
import Derived.Shelf.SlGeneric
import Derived.Ground.SlgfProg
import Derived.Shelf.SlicesE.DeleteFunc
import Derived.Test.YtdhgiklbkmkblaaGreatProg
set_option linter.unusedVariables false
set_option linter.unusedSimpArgs false
set_option maxRecDepth 100000
set_option maxHeartbeats 4000000
namespace Go.Proofs.YtdhgiklbkmkblaaGreat
open Go.RowKit Go.Sea
open Nat renaming reduceAdd → xA, reduceLT → xL, reduceLeDiff → xD, reduceEqDiff → xE, reduceMul → xM, reduceSub → xS, reduceBEq → xB
theorem ar_101 : arD Tryz.prog 101 = none := by kernel_rfl
theorem fnok_101 : fnOk Tryz.prog 101 = true := by kernel_rfl
theorem fnok_102 : fnOk Tryz.prog 102 = true := by kernel_rfl
theorem fnok_103 : fnOk Tryz.prog 103 = true := by kernel_rfl
theorem fnok_104 : fnOk Tryz.prog 104 = true := by kernel_rfl
theorem fnok_105 : fnOk Tryz.prog 105 = true := by kernel_rfl
theorem fnok_106 : fnOk Tryz.prog 106 = true := by kernel_rfl
theorem fnok_17 : fnOk Tryz.prog 17 = true := by kernel_rfl
theorem fnok_66 : fnOk Tryz.prog 66 = true := by kernel_rfl
theorem fo_104 : fieldsOk Tryz.prog 104 = true := by kernel_rfl
theorem le_101 : lenD Tryz.prog 101 = some true := by kernel_rfl
theorem of_104_0 : offOf Tryz.prog 104 0 = some 0 := by kernel_rfl
theorem pl_104_0 : placeF Tryz.prog 104 0 = some (0, 1) := by kernel_rfl
theorem sl_101 : slD Tryz.prog 101 = some (1, 8, 104) := by kernel_rfl
theorem ty_104 : tyD Tryz.prog 104 = some (true, 1) := by kernel_rfl
theorem ty_37 : tyD Tryz.prog 37 = some (false, 1) := by kernel_rfl
theorem zc_104 : zeroC Tryz.prog 104 = some [.iv (.g (.nilFunc))] := by kernel_rfl
attribute [go_sem] ar_101 fnok_17 fnok_66 fo_104 le_101 of_104_0 pl_104_0 sl_101 ty_104 ty_37 zc_104
def datE (a b : ShtS) : Bool := decide (a.m.A = b.m.A ∧ a.m.B = b.m.B ∧ a.m.C = b.m.C ∧ a.m.D = b.m.D ∧ a.m.E = b.m.E ∧ a.m.F = b.m.F ∧ a.m.R = b.m.R)
def cpB (a b : ShtS) : Nat → Bool
  | 0 => decide (a.ch = b.ch)
  | 1 => decide (a.sc = b.sc)
  | 2 => datE a b
  | 3 => decide (a.cap = b.cap)
  | 4 => eqLI a.q b.q a.dn b.dn
  | _ => eqFI a.n b.n a.f b.f
def cpJ (a b : ShtS) : Nat := fstB (fun i => !cpB a b i) 6
def CpB (a b : ShtS) : Bool := shtB a && shtB b
def CpV (a b : ShtS) : Int := if CpB a b = true then (if cpJ a b < 6 then (cpJ a b : Int) + 1 else 0) else 0
def CpE (a b : ShtS) : Int := if CpB a b = true then 0 else 1
theorem cp_bad {a b : ShtS} (h : CpB a b = false) : CpV a b = 0 ∧ CpE a b = 1 := by unfold CpV CpE; rw [h]; exact ⟨rfl, rfl⟩
theorem cp_hit {a b : ShtS} (h : CpB a b = true) {i : Nat} (hi : i < 6) (h2 : cpB a b i = false) (g : ∀ j, j < i → cpB a b j = true) : CpV a b = (i : Int) + 1 ∧ CpE a b = 0 := by
  have e : cpJ a b = i := fstB_h (b := fun i => !cpB a b i) (by simp [h2]) (fun j hj => by simp [g j hj]) 6 hi
  unfold CpV CpE; rw [if_pos h, if_pos h, e, if_pos hi]; exact ⟨rfl, rfl⟩
theorem cp_0 {a b : ShtS} (h : CpB a b = true) (g : ∀ j, j < 6 → cpB a b j = true) : CpV a b = 0 ∧ CpE a b = 0 := by
  have e : cpJ a b = 6 := fstB_t 6 fun j hj => by simp [g j hj]
  unfold CpV CpE; rw [if_pos h, if_pos h, e, if_neg (by omega)]; exact ⟨rfl, rfl⟩
theorem cp_no {a b : ShtS} (h : CpB a b = false) (hc : shtB a = true ∧ shtB b = true) : False := by unfold CpB at h; rw [hc.1, hc.2] at h; cases h
theorem cp_spl {a b : ShtS} (h : CpB a b = true) : shtB a = true ∧ shtB b = true := by unfold CpB at h; simpa using h
theorem cpb0 {a b : ShtS} (h : a.ch = b.ch) : cpB a b 0 = true := decide_eq_true h
theorem cpb0f {a b : ShtS} (h : a.ch ≠ b.ch) : cpB a b 0 = false := decide_eq_false h
theorem cpb1 {a b : ShtS} (h : a.sc = b.sc) : cpB a b 1 = true := decide_eq_true h
theorem cpb1f {a b : ShtS} (h : a.sc ≠ b.sc) : cpB a b 1 = false := decide_eq_false h
theorem cpb3 {a b : ShtS} (h : a.cap = b.cap) : cpB a b 3 = true := decide_eq_true h
theorem cpb3f {a b : ShtS} (h : a.cap ≠ b.cap) : cpB a b 3 = false := decide_eq_false h
theorem cpb4 {a b : ShtS} (h : eqLI a.q b.q a.dn b.dn = true) : cpB a b 4 = true := h
theorem cpb4f {a b : ShtS} (h : eqLI a.q b.q a.dn b.dn = false) : cpB a b 4 = false := h
theorem cpb5 {a b : ShtS} (h : eqFI a.n b.n a.f b.f = true) : cpB a b 5 = true := h
theorem cpb5f {a b : ShtS} (h : eqFI a.n b.n a.f b.f = false) : cpB a b 5 = false := h
theorem datE_t {a b : ShtS} (h : datE a b = true) : cpB a b 2 = true := h
theorem datE_f {a b : ShtS} (h : datE a b = false) : cpB a b 2 = false := h
theorem stepA {p : Nat → Prop} {i q m : Nat} (h : ∀ j, j < i → p j) (hi : i = q) (hq : p q) (hm : m = q + 1) : ∀ j, j < m → p j := fun j hj => by
  by_cases e : j = q
  · subst e; exact hq
  · exact h j (by omega)
def thgF (i o : Nat) : IV := .g (.func (.func (101 + i)) #[] #[])
theorem thgF_0 (o : Nat) : thgF 0 o = .g (.func (.func 101) #[] #[]) := rfl
theorem thgF_1 (o : Nat) : thgF 1 o = .g (.func (.func 102) #[] #[]) := rfl
theorem thgF_2 (o : Nat) : thgF 2 o = .g (.func (.func 103) #[] #[]) := rfl
theorem thgF_3 (o : Nat) : thgF 3 o = .g (.func (.func 104) #[] #[]) := rfl
theorem thgF_4 (o : Nat) : thgF 4 o = .g (.func (.func 105) #[] #[]) := rfl
theorem thgF_5 (o : Nat) : thgF 5 o = .g (.func (.func 106) #[] #[]) := rfl
theorem thg0_p (a b : ShtS) (ha : a.Ok) (hb : b.Ok) : CallsP Tryz.prog 101 [(shP a), (shP b)] (.t (.one (.g (.bool (decide (a.ch = b.ch)))))) := by
  refine CallsP_of Tryz.func101 rfl (by rw [Tryz.ntmps101]; simp) ?_
  simp only [shP, Tryz.ntmps101, zM, PT.tv, argEnv, Nat.zero_add, Nat.reduceAdd]
  repeat' (first
 | ((with_reducible show AW _ _ _ _); first
 | (with_reducible first | refine aS (fun K hK => ?_) | refine aT ?_)
 | (first
 | (with_reducible first | refine aP 0 [0,1] ?_ | refine aP 1 [2,3] ?_)))
 | (with_reducible refine retK_n ?_)
 | ((fail_if_success (with_reducible show AW _ _ _ _)); simp (maxSteps := 2000000) only [go_sem, reduceIte, reduceCtorEq, xA, xL, xD, xE, xM, xS, xB, Tryz.f101, Go.Sea.cmpS])
 | ((with_reducible refine hK _ ?_); clear hK K))
  all_goals (rfl)
theorem thg1_p (a b : ShtS) (ha : a.Ok) (hb : b.Ok) : CallsP Tryz.prog 102 [(shP a), (shP b)] (.t (.one (.g (.bool (decide (a.sc = b.sc)))))) := by
  refine CallsP_of Tryz.func102 rfl (by rw [Tryz.ntmps102]; simp) ?_
  simp only [shP, Tryz.ntmps102, zM, PT.tv, argEnv, Nat.zero_add, Nat.reduceAdd]
  repeat' (first
 | ((with_reducible show AW _ _ _ _); first
 | (with_reducible first | refine aS (fun K hK => ?_) | refine aT ?_)
 | (first
 | (with_reducible first | refine aP 0 [0,1] ?_ | refine aP 1 [2,3] ?_)))
 | (with_reducible refine retK_n ?_)
 | ((fail_if_success (with_reducible show AW _ _ _ _)); simp (maxSteps := 2000000) only [go_sem, reduceIte, reduceCtorEq, xA, xL, xD, xE, xM, xS, xB, Tryz.f102, Go.Sea.cmpS])
 | ((with_reducible refine hK _ ?_); clear hK K))
  all_goals (rfl)
theorem thg2_p (a b : ShtS) (ha : a.Ok) (hb : b.Ok) : CallsP Tryz.prog 103 [(shP a), (shP b)] (.t (.one (.g (.bool (datE a b))))) := by
  refine CallsP_of Tryz.func103 rfl (by rw [Tryz.ntmps103]; simp) ?_
  simp only [shP, Tryz.ntmps103, zM, PT.tv, argEnv, Nat.zero_add, Nat.reduceAdd]
  repeat' (first
 | ((with_reducible show AW _ _ _ _); first
 | (with_reducible first | refine aS (fun K hK => ?_) | refine aT ?_)
 | (first
 | (with_reducible first | refine aP 0 [0,1] ?_ | refine aP 1 [2,3] ?_)))
 | (with_reducible refine retK_n ?_)
 | ((fail_if_success (with_reducible show AW _ _ _ _)); simp (maxSteps := 2000000) only [go_sem, reduceIte, reduceCtorEq, xA, xL, xD, xE, xM, xS, xB, Tryz.f103, Go.Sea.cmpS])
 | ((with_reducible refine hK _ ?_); clear hK K))
  all_goals ((refine Bool.eq_iff_iff.2 ?_; unfold datE; simp only [Bool.and_eq_true, decide_eq_true_eq, beq_iff_eq, and_assoc]; done))
theorem thg3_p (a b : ShtS) (ha : a.Ok) (hb : b.Ok) : CallsP Tryz.prog 104 [(shP a), (shP b)] (.t (.one (.g (.bool (decide (a.cap = b.cap)))))) := by
  refine CallsP_of Tryz.func104 rfl (by rw [Tryz.ntmps104]; simp) ?_
  simp only [shP, Tryz.ntmps104, zM, PT.tv, argEnv, Nat.zero_add, Nat.reduceAdd]
  repeat' (first
 | ((with_reducible show AW _ _ _ _); first
 | (with_reducible first | refine aS (fun K hK => ?_) | refine aT ?_)
 | (first
 | (with_reducible first | refine aP 0 [0,1] ?_ | refine aP 1 [2,3] ?_)))
 | (with_reducible refine retK_n ?_)
 | ((fail_if_success (with_reducible show AW _ _ _ _)); simp (maxSteps := 2000000) only [go_sem, reduceIte, reduceCtorEq, xA, xL, xD, xE, xM, xS, xB, Tryz.f104, Go.Sea.cmpS])
 | ((with_reducible refine hK _ ?_); clear hK K))
  all_goals (rfl)
theorem thg4_p (a b : ShtS) (ha : a.Ok) (hb : b.Ok) : CallsP Tryz.prog 105 [(shP a), (shP b)] (.t (.one (.g (.bool (eqLI a.q b.q a.dn b.dn))))) := by
  refine CallsP_of Tryz.func105 rfl (by rw [Tryz.ntmps105]; simp) ?_
  simp only [shP, Tryz.ntmps105, zM, PT.tv, argEnv, Nat.zero_add, Nat.reduceAdd]
  repeat' (first
 | ((with_reducible show AW _ _ _ _); first
 | (with_reducible first | refine aS (fun K hK => ?_) | refine aT ?_)
 | (first
 | (with_reducible first | refine aP 0 [0,1] ?_ | refine aP 1 [2,3] ?_)))
 | (((with_reducible refine Need.mk ?_)); focus (exact True.intro))
 | (with_reducible refine retK_n ?_)
 | ((with_reducible show callN _ _ _ _ _ _ _ _ _ _); first
 | (refine callN_q (k := 72) fnok_72 (eqI_p _ _ _ _ ha.q hb.q) ?_ ?_))
 | ((fail_if_success (with_reducible show AW _ _ _ _)); simp (maxSteps := 2000000) only [go_sem, reduceIte, reduceCtorEq, xA, xL, xD, xE, xM, xS, xB, Tryz.f105, Go.Sea.cmpS])
 | ((with_reducible refine hK _ ?_); clear hK K))
  all_goals ((refine Bool.eq_iff_iff.2 ?_; unfold datE; simp only [Bool.and_eq_true, decide_eq_true_eq, beq_iff_eq, and_assoc]; done))
theorem thg5_p (a b : ShtS) (ha : a.Ok) (hb : b.Ok) : CallsP Tryz.prog 106 [(shP a), (shP b)] (.t (.one (.g (.bool (eqFI a.n b.n a.f b.f))))) := by
  refine CallsP_of Tryz.func106 rfl (by rw [Tryz.ntmps106]; simp) ?_
  simp only [shP, Tryz.ntmps106, zM, PT.tv, argEnv, Nat.zero_add, Nat.reduceAdd]
  repeat' (first
 | ((with_reducible show AW _ _ _ _); first
 | (with_reducible first | refine aS (fun K hK => ?_) | refine aT ?_)
 | (first
 | (with_reducible first | refine aP 0 [0,1] ?_ | refine aP 1 [2,3] ?_)))
 | (((with_reducible refine Need.mk ?_)); focus (exact True.intro))
 | (with_reducible refine retK_n ?_)
 | ((with_reducible show callN _ _ _ _ _ _ _ _ _ _); first
 | (refine callN_q (k := 73) fnok_73 (eqf_p _ _ _ _ ha.n hb.n ha.f hb.f) ?_ ?_))
 | ((fail_if_success (with_reducible show AW _ _ _ _)); simp (maxSteps := 2000000) only [go_sem, reduceIte, reduceCtorEq, xA, xL, xD, xE, xM, xS, xB, Tryz.f106, Go.Sea.cmpS])
 | ((with_reducible refine hK _ ?_); clear hK K))
  all_goals ((refine Bool.eq_iff_iff.2 ?_; unfold datE; simp only [Bool.and_eq_true, decide_eq_true_eq, beq_iff_eq, and_assoc]; done))
theorem thg_p  : CallsP Tryz.prog 66 [] (.t (.one (.lst 1 6 thgF))) := by
  refine CallsP_of Tryz.func66 rfl (by rw [Tryz.ntmps66]; simp) ?_
  simp only [Tryz.ntmps66, zM, PT.tv, argEnv, Nat.zero_add, Nat.reduceAdd]
  repeat' (first
 | ((with_reducible show AW _ _ _ _); first
 | (with_reducible first | refine aS (fun K hK => ?_) | refine aT ?_)
 | (first
 | (with_reducible first | refine aP 0 [] ?_ | refine aP 1 [] ?_)))
 | (with_reducible refine retK_n ?_)
 | ((fail_if_success (with_reducible show AW _ _ _ _)); simp (maxSteps := 2000000) only [go_sem, reduceIte, reduceCtorEq, xA, xL, xD, xE, xM, xS, xB, Tryz.f66])
 | ((with_reducible refine hK _ ?_); clear hK K))
  all_goals ((intro i o hi ho; obtain rfl : o = 0 := (by omega); rcases (by omega : i = 0 ∨ i = 1 ∨ i = 2 ∨ i = 3 ∨ i = 4 ∨ i = 5) with rfl | rfl | rfl | rfl | rfl | rfl <;> exact IV.eqv_refl _))
theorem cp_f (a b : ShtS) (ha : a.Ok) (hb : b.Ok) (hB : CpB a b = false) : CallsP Tryz.prog 29 [(shP a), (shP b)] (.tup [.one (.g (.int .i64 (CpV a b))), .one (.g (.int .i64 (CpE a b)))]) := by
  refine CallsP_of Tryz.func29 rfl (by rw [Tryz.ntmps29]; simp) ?_
  simp only [shP, Tryz.ntmps29, zM, PT.tv, argEnv, Nat.zero_add, Nat.reduceAdd]
  repeat' (first
 | ((with_reducible show AW _ _ _ _); first
 | (with_reducible first | refine aS (fun K hK => ?_) | refine aI ?_ | refine aT ?_ | refine aC ?_)
 | (first
 | (with_reducible first | refine aP 0 [0,1] ?_ | refine aP 1 [2,3] ?_ | refine aP 2 [] ?_)))
 | ((first | (with_reducible refine And.intro ?_ ?_) | (with_reducible refine Need.mk ?_)); focus (first | exact True.intro | (intro _; (with_reducible assumption)) | (simp; done)))
 | (with_reducible refine retK_n ?_)
 | ((with_reducible show condN _ _ _ _ _ _); first
 | ((with_reducible refine condN_t ?_ ?_) <;> (intro hc; (try simp only [zB, zC, reduceCtorEq] at hc); (try (exfalso; contradiction)))))
 | ((with_reducible show callN _ _ _ _ _ _ _ _ _ _); (refine callN_q (k := 34) fnok_34 (sheet_p a ha) ?_ ?_))
 | ((with_reducible show callGN _ _ _ _ _ _ _ _ _ _); (refine callGN_q (k := 34) fnok_34 (fun hg => sheet_p b hb) ?_ ?_))
 | ((fail_if_success (with_reducible show AW _ _ _ _)); simp (maxSteps := 2000000) only [go_sem, reduceIte, reduceCtorEq, xA, xL, xD, xE, xM, xS, xB, Tryz.f29, Go.Sea.cmpS])
 | ((with_reducible refine hK _ ?_); clear hK K))
  all_goals (first | (have e := cp_bad hB; rw [e.1, e.2]; (repeat' (first | exact rfl | (with_reducible refine And.intro ?_ ?_))); done) | exact (cp_no hB hc).elim)
theorem cp_t (a b : ShtS) (ha : a.Ok) (hb : b.Ok) (hB : CpB a b = true) : CallsP Tryz.prog 29 [(shP a), (shP b)] (.tup [.one (.g (.int .i64 (CpV a b))), .one (.g (.int .i64 (CpE a b)))]) := by
  have hva := (cp_spl hB).1
  have hvb := (cp_spl hB).2
  have hz : True := trivial
  refine CallsP_of Tryz.func29 rfl (by rw [Tryz.ntmps29]; simp) ?_
  simp only [shP, Tryz.ntmps29, zM, PT.tv, argEnv, Nat.zero_add, Nat.reduceAdd]
  repeat' (first
 | ((with_reducible show AW _ _ _ _); first
 | (with_reducible first | refine aS (fun K hK => ?_) | refine aI ?_ | refine aX ?_ | refine aT ?_ | refine aC ?_ | refine aB ?_)
 | (first
 | (with_reducible first | refine aP 0 [0,1] ?_ | refine aP 1 [2,3] ?_ | refine aP 3 [2,3] ?_ | refine aP 4 [2,3,16,17,18] ?_ | refine aP 5 [2,3,16,17,18] ?_ | refine aP 6 [2,3,6,7,16,17,18] ?_ | refine aP 7 [6] ?_ | refine aP 8 [2,3,16,17,18] ?_ | refine aP 9 [] ?_))
 | ((with_reducible show AW _ (Code.loop _) _ _); first
 | ((with_reducible refine aL (c := (Code.seq (Code.region 4 _ _) _)) (ι := Nat) [2,3,16,17] (fun i => [(18, iA .i64 (i : Int))]) (fun i => []) (fun i => i ≤ 6 ∧ (∀ j, j < i → cpB a b j = true)) (fun i => 6 - i) 0 ?lg4 ?l14 ?l24 ?li4 ?lr4); (case' lg4 => rintro i _); (case' li4 => try (exact ⟨Nat.zero_le _, fun i hi => absurd hi (Nat.not_lt_zero _)⟩)); (case' lr4 => rintro i ⟨hi, hai⟩ KR hR4; (clear hz; rcases (by omega : i = 0 ∨ i = 1 ∨ i = 2 ∨ i = 3 ∨ i = 4 ∨ i = 5 ∨ i = 6) with hz | hz | hz | hz | hz | hz | hz); simp only [keepE, hupd, hset, lk, if_true, if_false, xE, reduceIte, zN, Go.Sea.cmpS, hva, hvb, hz, thgF_0, thgF_1, thgF_2, thgF_3, thgF_4, thgF_5, Int.toNat_natCast, Int.toNat_zero]))))
 | ((first | (with_reducible refine And.intro ?_ ?_) | (with_reducible refine Need.mk ?_)); focus (first | exact True.intro | omega | (intro _; exact True.intro)))
 | (with_reducible refine retK_n ?_)
 | ((with_reducible show condN _ _ _ _ _ _); first
 | ((with_reducible refine condN_t ?_ ?_) <;> (intro hc; (try simp only [zB, zC, reduceCtorEq] at hc); (try (exfalso; contradiction)))))
 | ((with_reducible show callN _ _ _ _ _ _ _ _ _ _); first
 | (refine callN_q (k := 34) fnok_34 (sheet_p a ha) ?_ ?_)
 | (refine callN_q (k := 66) fnok_66 (thg_p) ?_ ?_)
 | (refine callN_q (k := 101) fnok_101 (thg0_p a b ha hb) ?_ ?_)
 | (refine callN_q (k := 102) fnok_102 (thg1_p a b ha hb) ?_ ?_)
 | (refine callN_q (k := 103) fnok_103 (thg2_p a b ha hb) ?_ ?_)
 | (refine callN_q (k := 104) fnok_104 (thg3_p a b ha hb) ?_ ?_)
 | (refine callN_q (k := 105) fnok_105 (thg4_p a b ha hb) ?_ ?_)
 | (refine callN_q (k := 106) fnok_106 (thg5_p a b ha hb) ?_ ?_))
 | ((with_reducible show callGN _ _ _ _ _ _ _ _ _ _); (refine callGN_q (k := 34) fnok_34 (fun hg => sheet_p b hb) ?_ ?_))
 | ((with_reducible refine hR4 _ (i + 1) ?_); (try clear hR4 KR))
 | ((with_reducible refine Told.mk ?_); simp only [go_sem, reduceIte, reduceCtorEq, xA, xL, xD, xE, xM, xS, xB, Go.Sea.cmpS, hva, hvb, hz, thgF_0, thgF_1, thgF_2, thgF_3, thgF_4, thgF_5, Int.toNat_natCast, Int.toNat_zero] <;> ((((try simp (disch := omega) only [seaWrap, Int.natCast_add, Int.cast_ofNat_Int, and_true, true_and, and_self]); (repeat' (first | omega | (with_reducible refine And.intro ?_ ?_) | ((first | exact stepA hai hz (cpb0 hc) rfl | exact stepA hai hz (cpb1 hc) rfl | exact stepA hai hz (datE_t hc) rfl | exact stepA hai hz (cpb3 hc) rfl | exact stepA hai hz (cpb4 hc) rfl | exact stepA hai hz (cpb5 hc) rfl)))); done))))
 | ((fail_if_success (with_reducible show AW _ _ _ _)); simp (maxSteps := 2000000) only [go_sem, reduceIte, reduceCtorEq, xA, xL, xD, xE, xM, xS, xB, Tryz.f29, Go.Sea.cmpS, hva, hvb, hz, thgF_0, thgF_1, thgF_2, thgF_3, thgF_4, thgF_5, Int.toNat_natCast, Int.toNat_zero])
 | ((fail_if_success (with_reducible show AW _ _ _ _)); simp (disch := omega) only [seaWrap, seaDiv, seaMod])
 | ((with_reducible refine hK _ ?_); clear hK K)
 | (with_reducible apply_assumption -exfalso only [*]))
  all_goals (first | (have e := cp_0 hB (fun j hj => hai j (by omega)); rw [e.1, e.2]; (repeat' (first | exact rfl | (with_reducible refine And.intro ?_ ?_))); done) | (have e := cp_hit hB (i := 0) (by omega) (cpb0f hc) (fun j hj => hai j (by omega)); rw [e.1, e.2]; (repeat' (first | exact rfl | (with_reducible refine And.intro ?_ ?_))); done) | (have e := cp_hit hB (i := 1) (by omega) (cpb1f hc) (fun j hj => hai j (by omega)); rw [e.1, e.2]; (repeat' (first | exact rfl | (with_reducible refine And.intro ?_ ?_))); done) | (have e := cp_hit hB (i := 2) (by omega) (datE_f hc) (fun j hj => hai j (by omega)); rw [e.1, e.2]; (repeat' (first | exact rfl | (with_reducible refine And.intro ?_ ?_))); done) | (have e := cp_hit hB (i := 3) (by omega) (cpb3f hc) (fun j hj => hai j (by omega)); rw [e.1, e.2]; (repeat' (first | exact rfl | (with_reducible refine And.intro ?_ ?_))); done) | (have e := cp_hit hB (i := 4) (by omega) (cpb4f hc) (fun j hj => hai j (by omega)); rw [e.1, e.2]; (repeat' (first | exact rfl | (with_reducible refine And.intro ?_ ?_))); done) | (have e := cp_hit hB (i := 5) (by omega) (cpb5f hc) (fun j hj => hai j (by omega)); rw [e.1, e.2]; (repeat' (first | exact rfl | (with_reducible refine And.intro ?_ ?_))); done))
theorem cp_p (a b : ShtS) (ha : a.Ok) (hb : b.Ok) : CallsP Tryz.prog 29 [(shP a), (shP b)] (.tup [.one (.g (.int .i64 (CpV a b))), .one (.g (.int .i64 (CpE a b)))]) := by
  cases hB : CpB a b with
  | false => exact cp_f a b ha hb hB
  | true => exact cp_t a b ha hb hB
end Go.Proofs.YtdhgiklbkmkblaaGreat
set_option maxRecDepth 100000
set_option maxHeartbeats 4000000
namespace Go.Proofs.YtdhgiklbkmkblaaGreat
open Go.RowKit Go.Sea
open Nat renaming reduceAdd → xA, reduceLT → xL, reduceLeDiff → xD, reduceEqDiff → xE, reduceMul → xM, reduceSub → xS, reduceBEq → xB
theorem fnok_62 : fnOk Tryz.prog 62 = true := by kernel_rfl
def BrB (s t : ShtS) (n : Nat) (N : Nat → NotS) : Bool := shtB s && shtB t && ntsB n N && decide (s.ch = t.ch)
def oldB (s t : ShtS) : Bool := decide (∃ i, i < s.q ∧ hasL t.q t.dn (s.dn i) = false)
def brG (s t : ShtS) (n : Nat) (N : Nat → NotS) (j : Nat) : Bool := hasL s.q s.dn (t.dn j) || (fndB n N (t.dn j) && cncB (fndS n N (t.dn j)) s.ch)
def brL (s t : ShtS) : Nat → List Int
  | 0 => []
  | i + 1 => if hasL s.q s.dn (t.dn i) = true then brL s t i else brL s t i ++ [t.dn i]
def brJ (s t : ShtS) (n : Nat) (N : Nat → NotS) : Nat := fstB (fun j => !brG s t n N j) t.q
def BrE (s t : ShtS) (n : Nat) (N : Nat → NotS) : Int := if BrB s t n N = true then (if oldB s t = true then 13 else if brJ s t n N < t.q then 16 else 0) else 1
def BrL (s t : ShtS) (n : Nat) (N : Nat → NotS) : List Int := if BrE s t n N = 0 then brL s t t.q else []
theorem brL_0 (s t : ShtS) : brL s t 0 = [] := rfl
theorem brL_f {s t : ShtS} {i : Nat} (h : hasL s.q s.dn (t.dn i) = true) : brL s t (i + 1) = brL s t i := by show (if _ then _ else _) = _; rw [if_pos h]
theorem brL_t {s t : ShtS} {i : Nat} (h : hasL s.q s.dn (t.dn i) = false) : brL s t (i + 1) = brL s t i ++ [t.dn i] := by show (if _ then _ else _) = _; rw [if_neg (by rw [h]; simp)]
theorem brL_le (s t : ShtS) : ∀ i, (brL s t i).length ≤ i
  | 0 => Nat.le_refl _
  | i + 1 => by
    have := brL_le s t i
    show (if _ then _ else _ : List Int).length ≤ _
    split
    · omega
    · simp; omega
theorem brG_1 {s t : ShtS} {n : Nat} {N : Nat → NotS} {j : Nat} (h : hasL s.q s.dn (t.dn j) = true) : brG s t n N j = true := by unfold brG; rw [h]; rfl
theorem brG_2 {s t : ShtS} {n : Nat} {N : Nat → NotS} {j : Nat} (h : fndB n N (t.dn j) = true) (h2 : cncB (fndS n N (t.dn j)) s.ch = true) : brG s t n N j = true := by unfold brG; rw [h, h2]; simp
theorem brG_f {s t : ShtS} {n : Nat} {N : Nat → NotS} {j : Nat} (h0 : hasL s.q s.dn (t.dn j) = false) (h : fndB n N (t.dn j) = false ∨ cncB (fndS n N (t.dn j)) s.ch = false) : brG s t n N j = false := by
  unfold brG; rw [h0]; rcases h with h | h <;> simp [h]
theorem br_e {s t : ShtS} {n : Nat} {N : Nat → NotS} {e : Int} (h : BrE s t n N = e) (h0 : e ≠ 0) : BrL s t n N = [] ∧ BrE s t n N = e := ⟨by unfold BrL; rw [if_neg (by rw [h]; exact h0)], h⟩
theorem br_1 {s t : ShtS} {n : Nat} {N : Nat → NotS} (h : BrB s t n N = false) : BrE s t n N = 1 := by unfold BrE; rw [h]; rfl
theorem br_13 {s t : ShtS} {n : Nat} {N : Nat → NotS} (h : BrB s t n N = true) {i : Nat} (hi : (i : Int) < s.q) (h2 : hasL t.q t.dn (s.dn i) = false) : BrE s t n N = 13 := by
  have ho : oldB s t = true := decide_eq_true ⟨i, by omega, h2⟩
  unfold BrE; rw [if_pos h, if_pos ho]
theorem old_f {s t : ShtS} {i : Nat} (hi : (s.q : Int) ≤ i) (g : ∀ j, j < i → hasL t.q t.dn (s.dn j) = true) : oldB s t = false := decide_eq_false fun ⟨j, h1, h2⟩ => by rw [g j (by omega)] at h2; cases h2
theorem br_16 {s t : ShtS} {n : Nat} {N : Nat → NotS} (h : BrB s t n N = true) (ho : oldB s t = false) {i : Nat} (hi : (i : Int) < t.q) (h2 : brG s t n N i = false) (g : ∀ j, j < i → brG s t n N j = true) : BrE s t n N = 16 := by
  have e : brJ s t n N = i := fstB_h (b := fun j => !brG s t n N j) (by simp [h2]) (fun j hj => by simp [g j hj]) _ (by omega)
  unfold BrE; rw [if_pos h, if_neg (by rw [ho]; simp), e, if_pos (by omega)]
theorem br_0 {s t : ShtS} {n : Nat} {N : Nat → NotS} (h : BrB s t n N = true) (ho : oldB s t = false) {i : Nat} (hi : (t.q : Int) ≤ i) (g : ∀ j, j < i → brG s t n N j = true) : BrL s t n N = brL s t t.q ∧ BrE s t n N = 0 := by
  have e : brJ s t n N = t.q := fstB_t _ fun j hj => by simp [g j (by omega)]
  have e2 : BrE s t n N = 0 := by unfold BrE; rw [if_pos h, if_neg (by rw [ho]; simp), e, if_neg (Nat.lt_irrefl _)]
  exact ⟨by unfold BrL; rw [if_pos e2], e2⟩
theorem br_no {s t : ShtS} {n : Nat} {N : Nat → NotS} (h : BrB s t n N = false) (hc : ((shtB s = true ∧ shtB t = true) ∧ ntsB n N = true) ∧ s.ch = t.ch) : False := by
  unfold BrB at h; rw [hc.1.1.1, hc.1.1.2, hc.1.2, decide_eq_true hc.2] at h; cases h
theorem br_spl {s t : ShtS} {n : Nat} {N : Nat → NotS} (h : BrB s t n N = true) : shtB s = true ∧ shtB t = true ∧ ntsB n N = true ∧ s.ch = t.ch := by
  unfold BrB at h; simp only [Bool.and_eq_true, decide_eq_true_eq] at h; exact ⟨h.1.1.1, h.1.1.2, h.1.2, h.2⟩
theorem br_f (s t : ShtS) (n : Nat) (N : Nat → NotS) (hs : s.Ok) (ht : t.Ok) (hn : n ≤ 9223372036854775807) (hN : ∀ i, i < n → (N i).Ok) (hB : BrB s t n N = false) : CallsP Tryz.prog 27 [(shP s), (shP t), .one (.lst 7 n (notF N))] (.tup [.one (.lst 1 (BrL s t n N).length (intI (zL (BrL s t n N)))), .one (.g (.int .i64 (BrE s t n N)))]) := by
  refine CallsP_of Tryz.func27 rfl (by rw [Tryz.ntmps27]; simp) ?_
  simp only [shP, Tryz.ntmps27, zM, PT.tv, argEnv, Nat.zero_add, Nat.reduceAdd]
  repeat' (first
 | ((with_reducible show AW _ _ _ _); first
 | (with_reducible first | refine aS (fun K hK => ?_) | refine aI ?_ | refine aT ?_ | refine aC ?_)
 | (first
 | (with_reducible first | refine aP 0 [0,1,2] ?_ | refine aP 1 [2,3,4] ?_ | refine aP 2 [] ?_)))
 | ((first | (with_reducible refine And.intro ?_ ?_) | (with_reducible refine Need.mk ?_)); focus (first | exact True.intro | (intro _; (with_reducible assumption)) | (simp; done)))
 | (with_reducible refine retK_n ?_)
 | ((with_reducible show condN _ _ _ _ _ _); first
 | ((with_reducible refine condN_t ?_ ?_) <;> (intro hc; (try simp only [zB, zC, reduceCtorEq] at hc); (try (exfalso; contradiction)))))
 | ((with_reducible show callN _ _ _ _ _ _ _ _ _ _); (refine callN_q (k := 34) fnok_34 (sheet_p s hs) ?_ ?_))
 | ((with_reducible show callGN _ _ _ _ _ _ _ _ _ _); first
 | (refine callGN_q (k := 34) fnok_34 (fun hg => sheet_p t ht) ?_ ?_)
 | (refine callGN_q (k := 50) fnok_50 (fun hg => nts_p n N hn hN) ?_ ?_))
 | ((fail_if_success (with_reducible show AW _ _ _ _)); simp (maxSteps := 2000000) only [go_sem, reduceIte, reduceCtorEq, xA, xL, xD, xE, xM, xS, xB, Tryz.f27, intI])
 | ((with_reducible refine hK _ ?_); clear hK K))
  all_goals (first | (have e := br_e (br_1 hB) (by decide); rw [e.1, e.2]; (repeat' (first | exact rfl | (with_reducible refine And.intro ?_ ?_))); done) | exact (br_no hB hc).elim)
theorem br_or {n : Nat} {N : Nat → NotS} {x ch : Int} (h : (fndB n N x = false ∨ prtB (fndS n N x) ch = false) ∨ (fndS n N x).kd ≠ 1) : fndB n N x = false ∨ cncB (fndS n N x) ch = false := by
  rcases h with (h | h) | h
  · exact Or.inl h
  · exact Or.inr (cnc_f (Or.inl h))
  · exact Or.inr (cnc_f (Or.inr h))
theorem br_and {s t : ShtS} {n : Nat} {N : Nat → NotS} {j : Nat} (h : (fndB n N (t.dn j) = true ∧ prtB (fndS n N (t.dn j)) s.ch = true) ∧ (fndS n N (t.dn j)).kd = 1) : brG s t n N j = true := brG_2 h.1.1 (cnc_t ⟨h.1.2, h.2⟩)
theorem br_t (s t : ShtS) (n : Nat) (N : Nat → NotS) (hs : s.Ok) (ht : t.Ok) (hn : n ≤ 9223372036854775807) (hN : ∀ i, i < n → (N i).Ok) (hB : BrB s t n N = true) : CallsP Tryz.prog 27 [(shP s), (shP t), .one (.lst 7 n (notF N))] (.tup [.one (.lst 1 (BrL s t n N).length (intI (zL (BrL s t n N)))), .one (.g (.int .i64 (BrE s t n N)))]) := by
  have h4 := br_spl hB
  have hv := h4.1
  have hv2 := h4.2.1
  have hw := h4.2.2.1
  have hch := h4.2.2.2
  have hch1 : (s.ch = t.ch) = True := eq_true hch
  have hq1 := sht_q hv
  have hq2 := sht_q hv2
  refine CallsP_of Tryz.func27 rfl (by rw [Tryz.ntmps27]; simp) ?_
  simp only [shP, Tryz.ntmps27, zM, PT.tv, argEnv, Nat.zero_add, Nat.reduceAdd]
  repeat' (first
 | ((with_reducible show AW _ _ _ _); first
 | (with_reducible first | refine aS (fun K hK => ?_) | refine aI ?_ | refine aX ?_ | refine aT ?_ | refine aC ?_ | refine aB ?_)
 | (first
 | (with_reducible first | refine aP 0 [0,1,2] ?_ | refine aP (ops := #[⟨some 17, _, _, _, _, _⟩, _, _, _, _, _, _, _, _, _, _, _, _, _, _, _, _, _, _, _]) 1 [2,3,4] ?_ | refine aP (ops := #[⟨some 5, _, _, _, _, _⟩, _, _, _, _]) 1 [0,1] ?_ | refine aP (ops := #[⟨some 6, _, _, _, _, _⟩, _, _]) 1 [0,1] ?_ | refine aP (ops := #[⟨some 4, _, _, _, _, _⟩, _, _, _, _]) 1 [0,1] ?_ | refine aP (ops := #[⟨some 9, _, _, _, _, _⟩]) 2 [0,1,7,8] ?_ | refine aP 3 [0,1,7,8] ?_)
 | ((with_reducible refine aR (c := Code.region 3 _ true) [2,3,4] ?_); (with_reducible refine aD ?_ ?_ ?_ ?_); (focus kernel_rfl); (focus kernel_rfl); (focus kernel_rfl))
 | (with_reducible first | refine aP (ops := #[⟨some 41, _, _, _, _, _⟩, _, _, _]) 4 [2,3,4,8,9] ?_ | refine aP (ops := #[⟨some 11, _, _, _, _, _⟩, _, _, _, _, _]) 4 [0,1,5,7,8] ?_ | refine aP (ops := #[⟨some 6, _, _, _, _, _⟩, _]) 5 [] ?_ | refine aP (ops := #[⟨some 17, _, _, _, _, _⟩, _]) 5 [5] ?_ | refine aP (ops := #[⟨some 10, _, _, _, _, _⟩]) 6 [2,3,4,8] ?_ | refine aP (ops := #[⟨some 18, _, _, _, _, _⟩, _]) 6 [0,1,7,8] ?_ | refine aP (ops := #[⟨some 45, _, _, _, _, _⟩, _, _, _]) 7 [2,3,4,8,10] ?_ | refine aP (ops := #[⟨some 4, _, _, _, _, _⟩]) 7 [] ?_ | refine aP 8 [2,3,8,10,46,47,48] ?_ | refine aP 9 [2,3,8,10,46,47,48] ?_ | refine aP 10 [2,3,8,10,12,46,47,48] ?_ | refine aP 11 [2,3,8,10,12,46,47,48] ?_ | refine aP 12 [2,3,8,10,12,13,14,46,47,48] ?_ | refine aP 13 [2,3,8,10,12,13,14,16,46,47,48] ?_ | refine aP 14 [] ?_ | refine aP 15 [2,3,8,10,12,46,47,48] ?_ | refine aP 16 [2,3,8,10,46,47,48] ?_ | refine aP 17 [10] ?_))
 | ((with_reducible show AW _ (Code.loop _) _ _); first
 | ((with_reducible refine aL (c := (Code.seq (Code.region 2 _ _) _)) (ι := Nat) [0,1,7] (fun i => [(8, iA .i64 (i : Int))]) (fun i => []) (fun i => i ≤ s.q ∧ (∀ j, j < i → hasL t.q t.dn (s.dn j) = true)) (fun i => s.q - i) 0 ?lg2 ?l12 ?l22 ?li2 ?lr2); (case' lg2 => rintro i _); (case' li2 => try (exact ⟨Nat.zero_le _, fun i hi => absurd hi (Nat.not_lt_zero _)⟩)); (case' lr2 => rintro i ⟨hi, hai⟩ KR hR2; simp only [keepE, hupd, hset, lk, if_true, if_false, xE, reduceIte, zN, hv, hv2, hw, hch1, rowI_pur, rowI_snoc, rowI_len, maxLen, brL_0, List.length_append, List.length_cons, List.length_nil]))
 | ((with_reducible refine aL (c := (Code.seq (Code.region 8 _ _) _)) (ι := Nat) [2,3,8,46,47] (fun j => [(10, .t (.one (.slc 8 0 (brL s t j).length 1))), (48, iA .i64 (j : Int))]) (fun j => [(8, rowI (brL s t j))]) (fun j => j ≤ t.q ∧ (∀ k, k < j → brG s t n N k = true)) (fun j => t.q - j) 0 ?lg8 ?l18 ?l28 ?li8 ?lr8); (case' lg8 => rintro j _); (case' li8 => try (exact ⟨Nat.zero_le _, fun i hi => absurd hi (Nat.not_lt_zero _)⟩)); (case' lr8 => rintro j ⟨hj, haj⟩ KR hR8; have oL := brL_le s t j; simp only [keepE, hupd, hset, lk, if_true, if_false, xE, reduceIte, zN, hv, hv2, hw, hch1, rowI_pur, rowI_snoc, rowI_len, maxLen, brL_0, List.length_append, List.length_cons, List.length_nil]))))
 | ((first | (with_reducible refine And.intro ?_ ?_) | (with_reducible refine Need.mk ?_)); focus (first | exact True.intro | omega | (intro _; exact True.intro) | (simp; done)))
 | (with_reducible refine retK_n ?_)
 | ((with_reducible show condN _ _ _ _ _ _); first
 | ((with_reducible refine condN_t ?_ ?_) <;> (intro hc; (try simp only [zB, zC, reduceCtorEq] at hc); (try (exfalso; contradiction)))))
 | ((with_reducible refine And.intro ?_ ?_); focus ((with_reducible show chkR _ _ _ = true); kernel_rfl))
 | ((with_reducible show callN _ _ _ _ _ _ _ _ _ _); first
 | (refine callN_q (k := 34) fnok_34 (sheet_p s hs) ?_ ?_)
 | (refine callN_q (k := 63) fnok_63 (has_p t _ ht hv2) ?_ ?_)
 | (refine callN_q (k := 63) fnok_63 (has_p s _ hs hv) ?_ ?_)
 | (refine callN_q (k := 64) fnok_64 (fnd_p n N hn hN (t.dn j) hw) ?_ ?_)
 | (refine callN_q (k := 65) fnok_65 (prtF_p (fndS n N (t.dn j)) s.ch (fndS_ok hN _)) ?_ ?_)
 | ((refine callN_i (k := 61) Tryz.func61 rfl fnok_61 (by rw [Tryz.ntmps61]; simp) ?_ ?_ (fun K hK => ?_)); (focus (exact True.intro)); (focus ((simp [lsF]; done))); simp only [Tryz.ntmps61, List.map_cons, List.map_nil, List.nil_append, List.cons_append, List.append_nil, LV.tv, argEnv, Nat.zero_add, Nat.reduceAdd])
 | ((refine callN_i (k := 95) Tryz.func95 rfl fnok_95 (by rw [Tryz.ntmps95]; simp) ?_ ?_ (fun K hK => ?_)); (focus (exact True.intro)); (focus ((simp [lsF]; done))); simp only [Tryz.ntmps95, List.map_cons, List.map_nil, List.nil_append, List.cons_append, List.append_nil, LV.tv, argEnv, Nat.zero_add, Nat.reduceAdd])
 | ((refine callN_ic (k := 62) Tryz.func62 rfl fnok_62 (by rw [Tryz.ntmps62]; simp) ?_ ?_ (fun K hK => ?_)); (focus (exact True.intro)); (focus ((simp [lsF]; done))); simp only [Tryz.ntmps62, List.map_cons, List.map_nil, List.nil_append, List.cons_append, List.append_nil, LV.tv, argEnv, Nat.zero_add, Nat.reduceAdd]))
 | ((with_reducible show callGN _ _ _ _ _ _ _ _ _ _); first
 | (refine callGN_q (k := 34) fnok_34 (fun hg => sheet_p t ht) ?_ ?_)
 | (refine callGN_q (k := 50) fnok_50 (fun hg => nts_p n N hn hN) ?_ ?_))
 | ((with_reducible refine hR2 _ (i + 1) ?_); (try clear hR2 KR))
 | ((with_reducible refine hR8 _ (j + 1) ?_); (try clear hR8 KR))
 | ((with_reducible refine Told.mk ?_); simp only [go_sem, reduceIte, reduceCtorEq, xA, xL, xD, xE, xM, xS, xB, intI, hv, hv2, hw, hch1, rowI_pur, rowI_snoc, rowI_len, maxLen, brL_0, List.length_append, List.length_cons, List.length_nil] <;> (first | (((try simp (disch := omega) only [seaWrap, Int.natCast_add, Int.cast_ofNat_Int, and_true, true_and, and_self]); (repeat' (first | omega | rfl | (with_reducible refine And.intro ?_ ?_) | (exact all_succ (by assumption) (by assumption)))); done)) | (((try simp (disch := omega) only [seaWrap, Int.natCast_add, Int.cast_ofNat_Int, and_true, true_and, and_self]); (repeat' (first | omega | (with_reducible refine And.intro ?_ ?_) | ((first | rw [brL_f (by assumption)] | rw [brL_t (by assumption)])) | ((exact wkC_eq rfl (rowI_iv _))) | ((simp only [List.length_append, List.length_cons, List.length_nil, Nat.zero_add]; done)) | ((exact all_succ (by assumption) (brG_1 (by assumption)))) | ((exact all_succ (by assumption) (br_and hc))))); done))))
 | ((fail_if_success (with_reducible show AW _ _ _ _)); simp (maxSteps := 2000000) only [go_sem, reduceIte, reduceCtorEq, xA, xL, xD, xE, xM, xS, xB, Tryz.f27, Tryz.f61, Tryz.f95, Tryz.f62, intI, hv, hv2, hw, hch1, rowI_pur, rowI_snoc, rowI_len, maxLen, brL_0, List.length_append, List.length_cons, List.length_nil])
 | ((with_reducible refine hK _ ?_); clear hK K)
 | (with_reducible apply_assumption -exfalso only [*]))
  all_goals (first | (have e := br_e (br_13 hB (by assumption) (by assumption)) (by decide); rw [e.1, e.2]; (repeat' (first | exact rfl | (with_reducible refine And.intro ?_ ?_))); done) | (have e := br_e (br_16 hB (old_f (by assumption) hai) (by assumption) (brG_f (by assumption) (br_or hc)) haj) (by decide); rw [e.1, e.2]; (repeat' (first | exact rfl | (with_reducible refine And.intro ?_ ?_))); done) | (have e := br_0 hB (old_f (by assumption) hai) (by assumption) haj; have e0 : t.q = j := (by omega); subst e0; rw [e.1, e.2]; (exact ⟨fun c hc9 => (by have := rowI_iv _ c hc9; cases c <;> trivial), ⟨rfl, fun i o hi ho => row_zL _ i o hi ho⟩, rfl⟩)))
theorem br_p (s t : ShtS) (n : Nat) (N : Nat → NotS) (hs : s.Ok) (ht : t.Ok) (hn : n ≤ 9223372036854775807) (hN : ∀ i, i < n → (N i).Ok) : CallsP Tryz.prog 27 [(shP s), (shP t), .one (.lst 7 n (notF N))] (.tup [.one (.lst 1 (BrL s t n N).length (intI (zL (BrL s t n N)))), .one (.g (.int .i64 (BrE s t n N)))]) := by
  cases hB : BrB s t n N with
  | false => exact br_f s t n N hs ht hn hN hB
  | true => exact br_t s t n N hs ht hn hN hB
end Go.Proofs.YtdhgiklbkmkblaaGreat
namespace Go.Proofs.YtdhgiklbkmkblaaGreat
open Go.RowKit Go.Sea
structure StepS where
  nu : Int
  q : Nat
  a : Nat → Int
def cnI (N : Nat → NotS) (ch : Int) : Nat → List Nat
  | 0 => []
  | i + 1 => if cncB (N i) ch = true then cnI N ch i ++ [i] else cnI N ch i
theorem cnI_t {N : Nat → NotS} {ch : Int} {i : Nat} (h : cncB (N i) ch = true) : cnI N ch (i + 1) = cnI N ch i ++ [i] := by show (if _ then _ else _) = _; rw [if_pos h]
theorem cnI_f {N : Nat → NotS} {ch : Int} {i : Nat} (h : cncB (N i) ch = false) : cnI N ch (i + 1) = cnI N ch i := by show (if _ then _ else _) = _; rw [if_neg (by rw [h]; simp)]
theorem cnI_le (N : Nat → NotS) (ch : Int) : ∀ i, (cnI N ch i).length ≤ i
  | 0 => Nat.le_refl _
  | i + 1 => by
    have := cnI_le N ch i
    show (if _ then _ else _ : List Nat).length ≤ _
    split
    · simp; omega
    · omega
def numL (N : Nat → NotS) (ch : Int) (i : Nat) : List Int := (cnI N ch i).map fun j => (N j).nu
theorem numL_0 (N : Nat → NotS) (ch : Int) : numL N ch 0 = [] := rfl
theorem numL_len (N : Nat → NotS) (ch : Int) (i : Nat) : (numL N ch i).length = (cnI N ch i).length := by simp [numL]
theorem numL_t {N : Nat → NotS} {ch : Int} {i : Nat} (h : cncB (N i) ch = true) : numL N ch (i + 1) = numL N ch i ++ [(N i).nu] := by unfold numL; rw [cnI_t h]; simp
theorem numL_f {N : Nat → NotS} {ch : Int} {i : Nat} (h : cncB (N i) ch = false) : numL N ch (i + 1) = numL N ch i := by unfold numL; rw [cnI_f h]
def keepL (ns : List Int) (a : Nat → Int) : Nat → List Int
  | 0 => []
  | j + 1 => if ns.contains (a j) = true then keepL ns a j ++ [a j] else keepL ns a j
theorem keepL_t {ns : List Int} {a : Nat → Int} {j : Nat} (h : ns.contains (a j) = true) : keepL ns a (j + 1) = keepL ns a j ++ [a j] := by show (if _ then _ else _) = _; rw [if_pos h]
theorem keepL_f {ns : List Int} {a : Nat → Int} {j : Nat} (h : ns.contains (a j) = false) : keepL ns a (j + 1) = keepL ns a j := by show (if _ then _ else _) = _; rw [if_neg (by rw [h]; simp)]
theorem keepL_le (ns : List Int) (a : Nat → Int) : ∀ j, (keepL ns a j).length ≤ j
  | 0 => Nat.le_refl _
  | j + 1 => by
    have := keepL_le ns a j
    show (if _ then _ else _ : List Int).length ≤ _
    split
    · simp; omega
    · omega
def stp0 : StepS := ⟨0, 0, fun _ => 0⟩
def stpO (ns : List Int) (n : NotS) (P : PartS) : StepS := ⟨n.nu, (keepL ns P.a P.q).length, zL (keepL ns P.a P.q)⟩
def stpL (N : Nat → NotS) (ch : Int) (ns : List Int) (i : Nat) : List StepS := (cnI N ch i).map fun j => stpO ns (N j) (prt (N j) ch)
def opsL (N : Nat → NotS) (ch : Int) (i : Nat) : List PartS := (cnI N ch i).map fun j => prt (N j) ch
theorem stpL_len (N : Nat → NotS) (ch : Int) (ns : List Int) (i : Nat) : (stpL N ch ns i).length = (cnI N ch i).length := by simp [stpL]
theorem opsL_len (N : Nat → NotS) (ch : Int) (i : Nat) : (opsL N ch i).length = (cnI N ch i).length := by simp [opsL]
theorem stpL_t {N : Nat → NotS} {ch : Int} {ns : List Int} {i : Nat} (h : cncB (N i) ch = true) : stpL N ch ns (i + 1) = stpL N ch ns i ++ [stpO ns (N i) (prt (N i) ch)] := by unfold stpL; rw [cnI_t h]; simp
theorem stpL_f {N : Nat → NotS} {ch : Int} {ns : List Int} {i : Nat} (h : cncB (N i) ch = false) : stpL N ch ns (i + 1) = stpL N ch ns i := by unfold stpL; rw [cnI_f h]
theorem opsL_t {N : Nat → NotS} {ch : Int} {i : Nat} (h : cncB (N i) ch = true) : opsL N ch (i + 1) = opsL N ch i ++ [prt (N i) ch] := by unfold opsL; rw [cnI_t h]; simp
theorem opsL_f {N : Nat → NotS} {ch : Int} {i : Nat} (h : cncB (N i) ch = false) : opsL N ch (i + 1) = opsL N ch i := by unfold opsL; rw [cnI_f h]
def stpG : StepS → Nat → IV
  | s, 0 => .g (.int .i64 s.nu)
  | s, _ + 1 => .lst 1 s.q (intI s.a)
def stpF (l : List StepS) (i o : Nat) : IV := stpG (l.getD i stp0) o
def opsF (l : List PartS) (i o : Nat) : IV := .lst 16 (l.getD i part0).k (oprF (l.getD i part0).o)
def c2 (s : StepS) : List CV := [.iv (.g (.int .i64 s.nu)), .iv (.lst 1 s.q (intI s.a))]
def rowS (l : List StepS) : List CV := l.flatMap c2
def rowO (l : List PartS) : List CV := l.map fun P => .iv (.lst 16 P.k (oprF P.o))
theorem rowS_len (l : List StepS) : (rowS l).length = l.length * 2 := by
  induction l with
  | nil => rfl
  | cons s l ih => simp only [rowS, List.flatMap_cons, List.length_append] at ih ⊢; rw [ih]; simp [c2]; omega
theorem rowO_len (l : List PartS) : (rowO l).length = l.length := by simp [rowO]
theorem rowS_iv (l : List StepS) : ∀ c, c ∈ rowS l → isIv c := by
  intro c hc
  simp only [rowS, List.mem_flatMap, c2] at hc
  obtain ⟨s, _, h⟩ := hc
  simp at h
  rcases h with rfl | rfl <;> trivial
theorem rowO_iv (l : List PartS) : ∀ c, c ∈ rowO l → isIv c := by
  intro c hc
  simp only [rowO, List.mem_map] at hc
  obtain ⟨P, _, rfl⟩ := hc
  trivial
theorem frz_iv {i : Nat} {cs : List CV} : ∀ l : List CV, (∀ c, c ∈ l → isIv c) → List.map (frzC i cs) l = l
  | [], _ => rfl
  | c :: l, h => by
    have h1 := h c (List.mem_cons_self ..)
    rw [List.map_cons, frz_iv l fun c hc => h c (List.mem_cons_of_mem _ hc)]
    cases c with
    | iv c => rfl
    | _ => exact h1.elim
theorem rowS_pur (l : List StepS) (i : Nat) : List.map (CV.purge i) (rowS l) = rowS l := purge_iv i (rowS_iv l)
theorem rowO_pur (l : List PartS) (i : Nat) : List.map (CV.purge i) (rowO l) = rowO l := purge_iv i (rowO_iv l)
theorem rowS_frz (l : List StepS) (i : Nat) (cs : List CV) : List.map (frzC i cs) (rowS l) = rowS l := frz_iv _ (rowS_iv l)
theorem rowO_frz (l : List PartS) (i : Nat) (cs : List CV) : List.map (frzC i cs) (rowO l) = rowO l := frz_iv _ (rowO_iv l)
theorem rowI_frz (l : List Int) (i : Nat) (cs : List CV) : List.map (frzC i cs) (rowI l) = rowI l := frz_iv _ (rowI_iv l)
theorem rowO_snoc (l : List PartS) (P : PartS) (i : Nat) : List.map (CV.purge i) (rowO l ++ [.iv (.lst 16 P.k (oprF P.o))]) = rowO (l ++ [P]) := by
  have e : rowO l ++ [CV.iv (.lst 16 P.k (oprF P.o))] = rowO (l ++ [P]) := by simp [rowO]
  rw [e]; exact rowO_pur _ _
theorem rowS_snoc (l : List StepS) (s : StepS) : rowS l ++ c2 s = rowS (l ++ [s]) := by simp [rowS]
theorem rowO_get (l : List PartS) (i : Nat) (h : i < l.length) : (rowO l).getD i .any = .iv (.lst 16 (l.getD i part0).k (oprF (l.getD i part0).o)) := by simp [rowO, List.getD, h]
theorem rowS_get : ∀ (l : List StepS) (i o : Nat), i < l.length → o < 2 → (rowS l).getD (i * 2 + o) .any = (c2 (l.getD i stp0)).getD o .any
  | [], _, _, h, _ => by simp at h
  | s :: l, 0, o, _, ho => by
    show (c2 s ++ rowS l).getD (0 * 2 + o) .any = (c2 s).getD o .any
    rw [Nat.zero_mul, Nat.zero_add, List.getD, List.getD, List.getElem?_append_left (by show o < 2; exact ho)]
  | s :: l, i + 1, o, h, ho => by
    show (c2 s ++ rowS l).getD ((i + 1) * 2 + o) .any = (c2 (l.getD i stp0)).getD o .any
    rw [← rowS_get l i o (by simpa using h) ho, List.getD, List.getD, List.getElem?_append_right (by show 2 ≤ _; omega)]
    congr 2
    show (i + 1) * 2 + o - 2 = _
    omega
theorem rowS_eqv (l : List StepS) : ∀ i o, i < l.length → o < 2 → (civ ((rowS l).getD (i * 2 + o) .any)).eqv (stpF l i o) := fun i o hi ho => by
  rw [rowS_get l i o hi ho]
  rcases (by omega : o = 0 ∨ o = 1) with rfl | rfl <;> exact IV.eqv_refl _
theorem rowO_eqv (l : List PartS) : ∀ i o, i < l.length → o < 1 → (civ ((rowO l).getD (i * 1 + o) .any)).eqv (opsF l i o) := fun i o hi ho => by
  obtain rfl : o = 0 := by omega
  rw [Nat.mul_one, Nat.add_zero, rowO_get _ _ hi]; exact IV.eqv_refl _
def StB (n : Nat) (N : Nat → NotS) (ch : Int) : Bool := ntsB n N && decide (1 ≤ ch ∧ ch ≤ 1000)
def StE (n : Nat) (N : Nat → NotS) (ch : Int) : Int := if StB n N ch = true then 0 else 1
def StL (n : Nat) (N : Nat → NotS) (ch : Int) : List StepS := if StB n N ch = true then stpL N ch (numL N ch n) n else []
def OpL (n : Nat) (N : Nat → NotS) (ch : Int) : List PartS := if StB n N ch = true then opsL N ch n else []
theorem st_bad {n : Nat} {N : Nat → NotS} {ch : Int} (h : StB n N ch = false) : StL n N ch = [] ∧ OpL n N ch = [] ∧ StE n N ch = 1 := by unfold StL OpL StE; rw [h]; exact ⟨rfl, rfl, rfl⟩
theorem st_ok {n : Nat} {N : Nat → NotS} {ch : Int} (h : StB n N ch = true) : StL n N ch = stpL N ch (numL N ch n) n ∧ OpL n N ch = opsL N ch n ∧ StE n N ch = 0 := by unfold StL OpL StE; rw [if_pos h, if_pos h, if_pos h]; exact ⟨rfl, rfl, rfl⟩
theorem st_spl {n : Nat} {N : Nat → NotS} {ch : Int} (h : StB n N ch = true) : ntsB n N = true ∧ n ≤ 200 ∧ 1 ≤ ch ∧ ch ≤ 1000 := by
  unfold StB at h; simp only [Bool.and_eq_true, decide_eq_true_eq] at h; exact ⟨h.1, (nts_n h.1).1, h.2.1, h.2.2⟩
theorem st_no {n : Nat} {N : Nat → NotS} {ch : Int} (h : StB n N ch = false) (hc : (ntsB n N = true ∧ 1 ≤ ch) ∧ ch ≤ 1000) : False := by
  unfold StB at h; rw [hc.1.1, decide_eq_true ⟨hc.1.2, hc.2⟩] at h; cases h
end Go.Proofs.YtdhgiklbkmkblaaGreat
set_option maxRecDepth 100000
set_option maxHeartbeats 4000000
namespace Go.Proofs.YtdhgiklbkmkblaaGreat
open Go.RowKit Go.Sea
open Nat renaming reduceAdd → xA, reduceLT → xL, reduceLeDiff → xD, reduceEqDiff → xE, reduceMul → xM, reduceSub → xS, reduceBEq → xB
theorem fo_43 : fieldsOk Tryz.prog 43 = true := by kernel_rfl
theorem of_43_1 : offOf Tryz.prog 43 1 = some 1 := by kernel_rfl
theorem pl_43_0 : placeF Tryz.prog 43 0 = some (0, 1) := by kernel_rfl
theorem sl_38 : slD Tryz.prog 38 = some (2, 32, 43) := by kernel_rfl
theorem sl_39 : slD Tryz.prog 39 = some (1, 24, 46) := by kernel_rfl
theorem ty_43 : tyD Tryz.prog 43 = some (true, 2) := by kernel_rfl
theorem zc_43 : zeroC Tryz.prog 43 = some [.iv (.g (.int .i64 0)), .iv (.g (.slice none 0 0))] := by kernel_rfl
theorem zc_46 : zeroC Tryz.prog 46 = some [.iv (.g (.slice none 0 0))] := by kernel_rfl
attribute [go_sem] fo_43 of_43_1 pl_43_0 sl_38 sl_39 ty_43 zc_43 zc_46
theorem wkC_snoc2 {ok : Nat → Prop} {a b c d : CV} (h1 : wkV ok a c) (h2 : wkV ok b d) : ∀ {l : List CV}, (∀ c, c ∈ l → isIv c) → wkC ok (l ++ [a, b]) (l ++ [c, d])
  | [], _ => ⟨h1, h2, trivial⟩
  | x :: l, h => by
    refine ⟨Or.inr (Or.inl ⟨rfl, ?_⟩), wkC_snoc2 h1 h2 fun c hc => h c (List.mem_cons_of_mem _ hc)⟩
    have := h x (List.mem_cons_self ..)
    cases x <;> first | trivial | exact this.elim
theorem wk_step {ok : Nat → Prop} {l : List StepS} {s : StepS} {f : Nat → Nat → IV} (h : ∀ i o, i < s.q → o < 1 → (f i o).eqv (.g (.int .i64 (s.a i)))) : wkC ok (rowS l ++ [.iv (.g (.int .i64 s.nu)), .iv (.lst 1 s.q f)]) (rowS (l ++ [s])) := by
  rw [← rowS_snoc]
  have e2 : (IV.lst 1 s.q f).eqv (.lst 1 s.q (intI s.a)) := ⟨rfl, rfl, h⟩
  exact wkC_snoc2 (a := .iv (.g (.int .i64 s.nu))) (b := .iv (.lst 1 s.q f)) (c := .iv (.g (.int .i64 s.nu))) (d := .iv (.lst 1 s.q (intI s.a))) (Or.inr (Or.inl ⟨rfl, trivial⟩)) (Or.inr (Or.inr e2)) (rowS_iv _)
theorem rowS_put (l : List StepS) (a b : IV) (i : Nat) : List.map (CV.purge i) (rowS l ++ [.iv a, .iv b]) = rowS l ++ [.iv a, .iv b] := purge_iv i fun c hc => by
  rcases List.mem_append.1 hc with h | h
  · exact rowS_iv _ c h
  · simp at h; rcases h with rfl | rfl <;> trivial
theorem rowO_eqv2 (l : List PartS) : ∀ i o, i < l.length → o < 1 → (civ ((rowO l).getD (i + o) .any)).eqv (opsF l i o) := fun i o hi ho => by
  have := rowO_eqv l i o hi ho
  rwa [Nat.mul_one] at this
theorem prt_bd {N : NotS} {ch : Int} (h : notB N = true) (hb : prtB N ch = true) : (prt N ch).q ≤ 100 ∧ (prt N ch).k ≤ 100 := by
  have h1 := (of_decide_eq_true h).2 _ (of_decide_eq_true hb)
  have h2 := of_decide_eq_true h1.2
  exact ⟨h2.1.2.1, h2.1.2.2⟩
end Go.Proofs.YtdhgiklbkmkblaaGreat
namespace Go.Proofs
open Go.Shelf
def Tryz.laysDf54_ren : Go.Shelf.Ren := ⟨fun | 10 => 54 | 6 => 95 | n => n, fun | 22 => 24 | 23 => 3 | 25 => 86 | 3 => 3 | 4 => 4 | 0 => 0 | n => n, fun | n => n⟩
theorem Tryz.laysDf54 : Go.Proofs.SlLaysH.n10 Tryz.prog Tryz.laysDf54_ren := {
  mixed := by kernel_rfl
  f6 := ⟨Tryz.f95.name, by decide, Tryz.func95.trans (congrArg some (by kernel_rfl))⟩
  f10 := ⟨Tryz.f54.name, by decide, Tryz.func54.trans (congrArg some (by kernel_rfl))⟩
  t0 := Tryz.underlying0
  a0 := Tryz.isAgg0
  z0 := Tryz.sizeOf0
  v0 := Tryz.zeroValue0
  t3 := Tryz.underlying3
  a3 := Tryz.isAgg3
  z3 := Tryz.sizeOf3
  v3 := Tryz.zeroValue3
  t4 := Tryz.underlying4
  a4 := Tryz.isAgg4
  z4 := Tryz.sizeOf4
  v4 := Tryz.zeroValue4
  t22 := Tryz.underlying24
  a22 := Tryz.isAgg24
  z22 := Tryz.sizeOf24
  v22 := Tryz.zeroValue24
  a23 := Tryz.isAgg3
  z23 := Tryz.sizeOf3
  t25 := Tryz.underlying86
  a25 := Tryz.isAgg86
  z25 := Tryz.sizeOf86
  v25 := Tryz.zeroValue86 }
end Go.Proofs
namespace Go.Proofs.YtdhgiklbkmkblaaGreat
open Go.RowKit Go.Sea
open Go.Proofs Go.Sort in
theorem fn_give (W : World) (b off : Nat) (v : Value) (x : Int) (c : Bool) (hc : W.cell? ⟨b, off, none⟩ = some v) (hcon : Calls Tryz.prog 53 #[v, .int .i64 x] W fun e w' => e = .returned (.bool c) ∧ w' = W) : FnGives Tryz.prog 52 #[.pointer (some ⟨b, off, none⟩)] #[.int .i64 x] (.bool (!c)) W := by
  show Calls Tryz.prog 52 #[.int .i64 x, .pointer (some ⟨b, off, none⟩)] W _
  go_enter Tryz.func52, Tryz.ntmps52
  go_wp2_with (go_at_call 53; refine hcon.mono ?_; rintro e w' ⟨rfl, rfl⟩)
  go_ret
  exact ⟨rfl, 0, rfl⟩
open Go.Proofs Go.Sort in
theorem del_nil (p : Option Addr) (c : Nat) (fv : Value) (w : World) : Calls Tryz.prog 54 #[.slice p 0 c, fv] w fun e w' => e = .returned (.slice p 0 c) ∧ w' = w := by
  have hI := AnyE.slices_IndexFunc_empty (P := Tryz.prog) (ρ := Tryz.laysDf54_ren) { Tryz.laysDf54 with } p c fv w
  change Calls Tryz.prog 95 #[.slice p 0 c, fv] w _ at hI
  go_enter Tryz.func54, Tryz.ntmps54
  go_wp2_with (go_at_call 95; refine hI.mono ?_; rintro e w' ⟨rfl, rfl⟩)
  go_ret
  exact ⟨rfl, rfl⟩
open Go.Proofs Go.Sort in
theorem del_t (zs ns : List Int) (m q : Nat) (hm : m = zs.length) (hq : q = ns.length) (g : Nat → IV) (hg : (g 0).eqv (.lst 1 q (intI (zL ns)))) (hz : zs.length ≤ 1000000) (hn : ns.length ≤ 1000000) (i : Nat) :
    CallsT Tryz.prog 54 [.one (.slc i 0 m 1), .one (.fn (.func 52) [] [.iv (.ptr 1 g)])] i (rowI zs) (.t (.one (.slc i 0 (zs.filter fun x => ns.contains x).length 1))) (rowI ((zs.filter fun x => ns.contains x) ++ List.replicate (zs.length - (zs.filter fun x => ns.contains x).length) 0)) := by
  intro H hH w0 Z0 J Z s a w vs R hs hv
  subst hs; subst hm
  have eg : ∀ args w, (callFunc 52 args).run Tryz.prog w = .ok (.enter 52 args) w := enters_of Tryz.func52 (by kernel_rfl) rfl
  obtain ⟨vs⟩ := vs
  match vs, hv with
  | [v, fv], ⟨hv, hf, _⟩ =>
    by_cases h0 : zs = []
    · subst h0
      have ev : ∃ p cap, v = .slice p 0 cap := by
        rcases hv with ⟨_, rfl⟩ | ⟨b, cap, c, e, rfl, _⟩ <;> exact ⟨_, _, rfl⟩
      obtain ⟨p, cap, rfl⟩ := ev
      refine (del_nil p cap fv w).mono fun e w' ⟨he, hw⟩ => ?_
      subst hw
      refine ⟨_, J, Z, he, ?_, hv⟩
      exact R.same fun k => by
        by_cases hk : k = i
        · subst hk; rw [hget_hset_same]; exact hH.symm
        · exact hget_hset_ne _ _ _ _ hk
    · rcases hv with ⟨h, _⟩ | ⟨b, cap, c, e, rfl, hj, hc1, hc2, hb, hsz⟩
      · exact absurd (List.eq_nil_of_length_eq_zero h) h0
      · obtain ⟨A, B, rfl, hA, hB⟩ := hf
        obtain ⟨A⟩ := A
        obtain ⟨B⟩ := B
        match A, B, hA, hB with
        | [], [u], _, ⟨hu, _⟩ =>
          have hu : Rd w Z u (.ptr 1 g) := hu
          cases hu with
          | ptr pb po _ _ X hpz h1 h2 =>
            have hX := Rd.eqv (h2 0 (by omega)) hg
            have hc0 := h1 0 (by omega)
            rw [Nat.add_zero] at hc0
            generalize X 0 = xv at hX hc0
            obtain ⟨k1, k2⟩ := row_read R hj hb h0 hH
            have hbz : ∀ y, Z y → y ≠ b := fun y hy e => (R.jlt i b hj).2.2 (e ▸ hy)
            -- the closure, in whatever world in which what is read by value lies as it did
            have give : ∀ (W : World) (x : Int), (∀ y, Z y → W.heap[y]? = w.heap[y]?) → FnGives Tryz.prog 52 #[.pointer (some ⟨pb, po, none⟩)] #[.int .i64 x] (.bool (!ns.contains x)) W := fun W x hW => by
              have hcell : ∀ y o, Z y → W.cell? ⟨y, o, none⟩ = w.cell? ⟨y, o, none⟩ := fun y o hy => by unfold World.cell?; rw [hW y hy]
              refine fn_give W pb po xv x _ ((hcell pb po hpz).trans hc0) ?_
              cases hX with
              | nil p0 cap0 =>
                have : ns = [] := List.eq_nil_of_length_eq_zero hq.symm
                subst this
                exact (Tryz.slices_Contains_int_empty p0 cap0 x W)
              | lst b2 off2 _ cap2 _ _ X2 hz2 hn2 hm2 g1 g2 =>
                have := Tryz.slices_Contains_int b2 off2 q cap2 ns x W (by omega) (by omega) fun j hj => by
                  rw [hcell b2 _ hz2]
                  have q1 := g1 j 0 (by omega) (by omega)
                  have q2 := g2 j 0 (by omega) (by omega)
                  rw [Nat.mul_one, Nat.add_zero] at q1
                  rw [q1]
                  generalize X2 j 0 = y at q2
                  have q2 : Rd w Z y (.g (.int .i64 (ns.getD j 0))) := q2
                  cases q2; rfl
                rw [List.take_of_length_le (by omega)] at this
                exact this
            have hzlt : ∀ y, Z y → y < w.heap.size := R.zlt
            have hpA : PredAt Tryz.prog 52 #[.pointer (some ⟨pb, po, none⟩)] (Value.int .i64) (fun x => !ns.contains x) w := fun W x hbel => give W x fun y hy => hbel.block y (hzlt y hy)
            have hpO : PredOver Tryz.prog 52 #[.pointer (some ⟨pb, po, none⟩)] (Value.int .i64) (fun x => !ns.contains x) b 0 zs.toArray.size w := fun n os dk x _ => give _ x fun y hy => by
              have h1 := hbz y hy
              have h2 := hzlt y hy
              unfold sortWorld
              rw [heap_grow_old _ _ (by rw [size_putRow]; exact h2)]
              unfold putRow mapBlock
              rw [Array.getElem?_modify, if_neg (fun e => h1 e.symm)]
              rfl
            have H1 := AnyE.slices_DeleteFunc (P := Tryz.prog) (ρ := Tryz.laysDf54_ren) Tryz.laysDf54 (Value.int .i64) (fun _ => rfl) (fun x => !ns.contains x) 52 #[.pointer (some ⟨pb, po, none⟩)] eg 0 Tryz.zeroValue3 b 0 cap zs.toArray w hpA hpO (row_holds hb k2) (by simp; omega) (by simpa using hc1)
            change Calls Tryz.prog 54 _ _ _ at H1
            simp only [Bool.not_not, List.size_toArray] at H1
            refine H1.mono fun e' w' ⟨he, nq, hw⟩ => ?_
            subst hw
            have hfl : (zs.filter fun x => ns.contains x).length ≤ zs.length := List.length_filter_le _ _
            have R1 := row_put (rel_ahead R nq) (ys := (zs.filter fun x => ns.contains x) ++ List.replicate (zs.length - (zs.filter fun x => ns.contains x).length) 0) hj hb hH (by rw [List.length_append, List.length_replicate]; omega) k1
            refine ⟨_, J, Z, he, R1, Or.inr ⟨b, cap, putCells (Value.int .i64) 0 ((zs.filter fun x => ns.contains x) ++ List.replicate (zs.length - (zs.filter fun x => ns.contains x).length) 0).toArray c, e, rfl, hj, by omega, hc2, ?_, ?_⟩⟩
            · show (putRow (Value.int .i64) (Sort.ahead w nq) b 0 _).heap[b]? = _
              unfold putRow mapBlock
              rw [Array.getElem?_modify, if_pos rfl]
              show (w.heap[b]?).map _ = _
              rw [hb]; rfl
            · simp only [putCells, Array.size_mapIdx]; omega
theorem keep_flt (ns : List Int) (a : Nat → Int) : ∀ q, keepL ns a q = (liI q a).filter fun x => ns.contains x
  | 0 => rfl
  | q + 1 => by
    have e : liI (q + 1) a = liI q a ++ [a q] := by unfold liI; rw [List.range_succ, List.map_append]; rfl
    rw [e, List.filter_append, ← keep_flt ns a q]
    cases h : ns.contains (a q) with
    | true => rw [keepL_t h, List.filter_cons, if_pos h]; rfl
    | false => rw [keepL_f h, List.filter_cons, if_neg (by rw [h]; simp)]; simp
theorem del_k (ns : List Int) (q u : Nat) (hu : u = ns.length) (a : Nat → Int) (g : Nat → IV) (hg : (g 0).eqv (.lst 1 u (intI (zL ns)))) (hz : q ≤ 1000000) (hn : ns.length ≤ 1000000) (i : Nat) :
    CallsT Tryz.prog 54 [.one (.slc i 0 q 1), .one (.fn (.func 52) [] [.iv (.ptr 1 g)])] i (rowI (liI q a)) (.t (.one (.slc i 0 (keepL ns a q).length 1))) (rowI (keepL ns a q ++ List.replicate (q - (keepL ns a q).length) 0)) := by
  have h := del_t (liI q a) ns q u (liI_len q a).symm hu g hg (by rw [liI_len]; exact hz) hn i
  rw [← keep_flt, liI_len] at h
  exact h
theorem clone_r (q : Nat) (a : Nat → Int) (hq : q ≤ 1000) : CallsN Tryz.prog 55 [.one (.iv (.lst 1 q (intI a)))] (rowI (liI q a)) (fun i => .t (.one (.slc i 0 q 1))) := by
  rw [← liI_row]; exact clone_n q (intI a) hq
theorem AW_ip {P : Program} {c : Code} {E : List (Nat × AV)} {H : List (Option (List CV))} {N : Nat} {g : List (Nat × List (Nat × AV))} {lp : LP} {Q : Exit → AS → Prop} (t m : Nat) (f : Nat → IV) (h : lk E t = .t (.one (.ip m f))) (hA : AW P c ⟨(t, .t (.one (.iv (.ptr m f)))) :: E, H, N, g, lp⟩ Q) : AW P c ⟨E, H, N, g, lp⟩ Q := fun w0 Z0 a w n ⟨J, Z, R⟩ =>
  hA w0 Z0 a w n ⟨J, Z, R.nodef, R.size, R.below, R.zfrom, R.zlt, R.jlt, R.inj, R.hole, R.blk, fun u => by
    show ARel _ _ _ _ (lk ((t, _) :: E) u)
    simp only [lk]
    by_cases hu : u = t
    · rw [if_pos hu]
      have h1 := R.slots u
      rw [hu] at h1 ⊢
      have h1 : ARel w J Z (a.tmps.getD t undef) (lk E t) := h1
      rw [h] at h1
      obtain ⟨b, off, X, e, hz, hx⟩ := h1
      rw [e]
      exact Rd.ptr b off m f X hz (fun o ho => (hx o ho).1) fun o ho => (hx o ho).2
    · rw [if_neg hu]; exact R.slots u, R.ghost, R.loops, R.lnd, R.ro⟩
end Go.Proofs.YtdhgiklbkmkblaaGreat
set_option maxRecDepth 100000
set_option maxHeartbeats 4000000
namespace Go.Proofs.YtdhgiklbkmkblaaGreat
open Go.RowKit Go.Sea
open Nat renaming reduceAdd → xA, reduceLT → xL, reduceLeDiff → xD, reduceEqDiff → xE, reduceMul → xM, reduceSub → xS, reduceBEq → xB
theorem fnok_54 : fnOk Tryz.prog 54 = true := by kernel_rfl
theorem pl_43_1 : placeF Tryz.prog 43 1 = some (1, 1) := by kernel_rfl
theorem ty_38 : tyD Tryz.prog 38 = some (false, 1) := by kernel_rfl
theorem ty_39 : tyD Tryz.prog 39 = some (false, 1) := by kernel_rfl
theorem ty_86 : tyD Tryz.prog 86 = some (false, 1) := by kernel_rfl
theorem zc_38 : zeroC Tryz.prog 38 = some [.iv (.g (.slice none 0 0))] := by kernel_rfl
theorem zc_39 : zeroC Tryz.prog 39 = some [.iv (.g (.slice none 0 0))] := by kernel_rfl
theorem zc_86 : zeroC Tryz.prog 86 = some [.iv (.g (.nilFunc))] := by kernel_rfl
attribute [go_sem] fnok_54 pl_43_1 ty_38 ty_39 ty_86 zc_38 zc_39 zc_86
theorem num_eqv3 {u : Nat} {l : List Int} (hu : u = l.length) : (IV.lst 1 u (fun p o => civ ((rowI l).getD (p + o) .any))).eqv (.lst 1 u (intI (zL l))) := ⟨rfl, rfl, fun i o hi ho => row_zL l i o (by omega) ho⟩
theorem row_pre (l r : List Int) : ∀ i o, i < l.length → o < 1 → (civ ((rowI (l ++ r)).getD (i + o) .any)).eqv (.g (.int .i64 (zL l i))) := fun i o hi ho => by
  obtain rfl : o = 0 := by omega
  rw [Nat.add_zero, rowI_get _ _ (by simp; omega)]
  have : (l ++ r).getD i 0 = zL l i := by unfold zL; rw [List.getD, List.getD, List.getElem?_append_left hi]
  rw [this]; exact IV.eqv_refl _
theorem rowS_p30 (l : List StepS) (a : IV) (n : Nat) : List.map (CV.purge 30) (rowS l ++ [.iv a, .slc 37 0 n 1]) = rowS l ++ [.iv a, .slc 37 0 n 1] := by
  rw [List.map_append, rowS_pur]; rfl
theorem rowS_f37 (l : List StepS) (a : IV) (k r : List Int) : List.map (frzC 37 (rowI (k ++ r))) (rowS l ++ [.iv a, .slc 37 0 k.length 1]) = rowS l ++ [.iv a, .iv (.lst 1 k.length fun p o => civ ((rowI (k ++ r)).getD (p + o) .any))] := by
  rw [List.map_append, rowS_frz]
  have h : 0 + k.length * 1 ≤ (rowI (k ++ r)).length := by rw [rowI_len, List.length_append]; omega
  have e : (fun (p o : Nat) => civ ((rowI (k ++ r)).getD (0 + p * 1 + o) .any)) = fun p o => civ ((rowI (k ++ r)).getD (p + o) .any) := by funext p o; rw [Nat.zero_add, Nat.mul_one]
  show rowS l ++ [CV.iv a, if 37 = 37 then (if 0 + k.length * 1 ≤ (rowI (k ++ r)).length then CV.iv (.lst 1 k.length fun p o => civ ((rowI (k ++ r)).getD (0 + p * 1 + o) .any)) else .any) else CV.slc 37 0 k.length 1] = _
  rw [if_pos rfl, if_pos h, e]
def mark2 : Prop := True
theorem AW_ip2 {P : Program} {c : Code} {s : AS} {Q : Exit → AS → Prop} (t m : Nat) (f : Nat → IV) (h : s.get t = .t (.one (.ip m f))) (hA : AW P c { s with env := (t, .t (.one (.iv (.ptr m f)))) :: s.env } Q) : AW P c s Q := by
  obtain ⟨E, H, N, g, lp⟩ := s
  exact AW_ip t m f h hA
theorem st_f (n : Nat) (N : Nat → NotS) (ch : Int) (hn : n ≤ 9223372036854775807) (hN : ∀ i, i < n → (N i).Ok) (hB : StB n N ch = false) : CallsP Tryz.prog 15 [.one (.lst 7 n (notF N)), .one (.g (.int .i64 ch))] (.tup [.one (.lst 2 (StL n N ch).length (stpF (StL n N ch))), .one (.lst 1 (OpL n N ch).length (opsF (OpL n N ch))), .one (.g (.int .i64 (StE n N ch)))]) := by
  refine CallsP_of Tryz.func15 rfl (by rw [Tryz.ntmps15]; simp) ?_
  simp only [Tryz.ntmps15, zM, PT.tv, argEnv, Nat.zero_add, Nat.reduceAdd]
  repeat' (first
 | ((with_reducible show AW _ _ _ _); first
 | (with_reducible first | refine aS (fun K hK => ?_) | refine aI ?_ | refine aT ?_ | refine aC ?_)
 | ((with_reducible first | refine aP 0 [0,1,28,39,40] ?_ | refine aP 1 [0,1,28,39,40] ?_ | refine aP 2 [] ?_)))
 | ((first | (with_reducible refine And.intro ?_ ?_) | (with_reducible refine Need.mk ?_)); focus (first | exact True.intro | (simp; done)))
 | (with_reducible refine retK_n ?_)
 | ((with_reducible show condN _ _ _ _ _ _); first
 | ((with_reducible refine condN_t ?_ ?_) <;> (intro hc; (try simp only [zB, zC, reduceCtorEq] at hc); (try (exfalso; contradiction)))))
 | ((with_reducible show callN _ _ _ _ _ _ _ _ _ _); first
 | (refine callN_q (k := 50) fnok_50 (nts_p n N hn hN) ?_ ?_))
 | ((fail_if_success (with_reducible show AW _ _ _ _)); simp (maxSteps := 2000000) only [go_sem, reduceIte, reduceCtorEq, xA, xL, xD, xE, xM, xS, xB, Tryz.f15])
 | ((with_reducible refine hK _ ?_); clear hK K))
  all_goals (first | (have e := st_bad hB; rw [e.1, e.2.1, e.2.2]; (repeat' (first | exact rfl | (with_reducible refine And.intro ?_ ?_))); done) | exact (st_no hB hc).elim)
theorem st_t (n : Nat) (N : Nat → NotS) (ch : Int) (hn : n ≤ 9223372036854775807) (hN : ∀ i, i < n → (N i).Ok) (hB : StB n N ch = true) : CallsP Tryz.prog 15 [.one (.lst 7 n (notF N)), .one (.g (.int .i64 ch))] (.tup [.one (.lst 2 (StL n N ch).length (stpF (StL n N ch))), .one (.lst 1 (OpL n N ch).length (opsF (OpL n N ch))), .one (.g (.int .i64 (StE n N ch)))]) := by
  have hSt := hB
  have mkA : True := trivial
  have mkI : True := trivial
  have mkP : True := trivial
  have hps : True := trivial
  have h4 := st_spl hB
  have hw := h4.1
  have hn2 := h4.2.1
  have hc1 := h4.2.2
  refine CallsP_of Tryz.func15 rfl (by rw [Tryz.ntmps15]; simp) ?_
  simp only [Tryz.ntmps15, zM, PT.tv, argEnv, Nat.zero_add, Nat.reduceAdd]
  repeat' (first
 | ((with_reducible show AW _ _ _ _); first
 | (with_reducible first | refine aS (fun K hK => ?_) | refine aI ?_ | refine aX ?_ | refine aT ?_ | refine aC ?_ | refine aB ?_)
 | ((refine AW_rangeFuncH (k := 93) rfl Tryz.func93 rfl fnok_93 (by rw [Tryz.ntmps93]; simp) ?_ ?_ (fun l hlne A B hA hB => ?_)); (focus (simp (maxSteps := 2000000) only [go_sem, reduceIte, reduceCtorEq, xA, xL, xD, xE, xM, xS, xB, Tryz.f15, Tryz.f93, Tryz.f51, intI, hps, rowS_p30, rowS_f37, List.length_replicate, Nat.le_add_right, hw, hc1.1, hc1.2, rowI_pur, rowI_snoc, rowI_len, rowI_frz, rowS_put, rowS_pur, rowS_frz, rowS_len, rowO_pur, rowO_frz, rowO_snoc, rowO_len, maxLen, numL_0, numL_len, stpL_len, opsL_len, List.length_append, List.length_cons, List.length_nil, Nat.le_refl]; try exact True.intro)); (focus (simp (maxSteps := 2000000) only [go_sem, reduceIte, reduceCtorEq, xA, xL, xD, xE, xM, xS, xB, Tryz.f15, Tryz.f93, Tryz.f51, intI, hps, rowS_p30, rowS_f37, List.length_replicate, Nat.le_add_right, hw, hc1.1, hc1.2, rowI_pur, rowI_snoc, rowI_len, rowI_frz, rowS_put, rowS_pur, rowS_frz, rowS_len, rowO_pur, rowO_frz, rowO_snoc, rowO_len, maxLen, numL_0, numL_len, stpL_len, opsL_len, List.length_append, List.length_cons, List.length_nil, Nat.le_refl]; try exact True.intro)); simp only [Tryz.ntmps93, List.map_cons, List.map_nil, LV.tv, argEnv, yV, Nat.zero_add, Nat.reduceAdd]; clear hlne)
 | (with_reducible refine AW_eq (by assumption) ?_)
 | (first
 | ((with_reducible show AW _ (Code.region 7 _ _) _ _); (clear mkI); refine AW_frz [8,0] ?_ (AW_ip2 7 _ _ rfl ?_))
 | (with_reducible first | refine aP (ops := #[⟨some 4, _, _, _, _, _⟩, _, _]) 0 [0,1,28,39,40] ?_ | refine aP (ops := #[⟨some 8, _, _, _, _, _⟩, _, _]) 0 [0,1,2] ?_ | refine aP (ops := #[⟨some 2, _, _, _, _, _⟩, _, _]) 0 [0,1] ?_ | refine aP (ops := #[⟨some 14, _, _, _, _, _⟩, _, _, _, _, _, _, _, _, _, _]) 1 [0,1,28,39,40] ?_ | refine aP (ops := #[⟨some 11, _, _, _, _, _⟩]) 1 [0,2,8,9,10] ?_ | refine aP (ops := #[⟨some 5, _, _, _, _, _⟩, _]) 1 [2,3] ?_ | refine aP (ops := #[⟨some 12, _, _, _, _, _⟩, _, _, _]) 2 [0,2,8,9,10] ?_ | refine aP (ops := #[⟨some 7, _, _, _, _, _⟩]) 3 [0,1,28,39,40] ?_ | refine aP (ops := #[⟨some 15, _, _, _, _, _⟩, _, _, _, _, _, _, _, _]) 3 [0,2,5,8,9,10] ?_ | refine aP (ops := #[⟨some 25, _, _, _, _, _⟩, _, _]) 4 [0,1,7,28,39,40] ?_ | refine aP (ops := #[⟨some 20, _, _, _, _, _⟩, _, _, _, _, _, _, _, _, _, _, _, _]) 4 [0,2,5,6,7,8,9,10] ?_ | refine aP (ops := #[⟨some 8, _, _, _, _, _⟩, _]) 5 [0,1,7,28,39,40] ?_ | refine aP (ops := #[⟨some 33, _, _, _, _, _⟩, _]) 5 [0,2,8,9,10] ?_ | refine aP 6 [0,1,7,8,28,39,40] ?_ | refine aP 7 [0,1,7,39,40] ?_ | refine aP 8 [0,1,9,39,40] ?_ | refine aP 9 [0,1,9,10,39,40] ?_ | refine aP 10 [0,1,9,10,11,39,40] ?_ | refine aP 11 [9,10,11,39,40] ?_ | refine aP 12 [9,10,11,12,39,40] ?_)
 | ((with_reducible refine aR (c := Code.region 13 _ true) [9,10,11,12,13,39,40] ?_); (with_reducible refine AW_regionB 10 ?_ ?_ ?_ ?_ ?_); (focus kernel_rfl); (focus kernel_rfl); (focus kernel_rfl); (focus kernel_rfl))
 | (with_reducible refine AW_frz (c := Code.region 14 _ false) [37] ?_ (aP 14 [9,10,11,13,39,40] ?_))
 | ((with_reducible refine aR (c := Code.region 15 _ true) [10,11] ?_); (with_reducible refine aD ?_ ?_ ?_ ?_); (focus kernel_rfl); (focus kernel_rfl); (focus kernel_rfl)))
 | ((with_reducible show AW _ (Code.loop _) _ _); first
 | ((with_reducible refine aL (c := (Code.seq (Code.region 1 _ _) _)) (ι := Nat) [0,2,8,9] (fun u => [(10, iA .i64 (u : Int))]) (fun u => [(0, [.slc 8 0 (cnI N ch u).length 1]), (8, rowI (numL N ch u))]) (fun u => u ≤ n) (fun u => n - u) 0 ?lg1 ?l11 ?l21 ?li1 ?lr1); (case' lg1 => rintro u _); (case' li1 => try (omega)); (case' lr1 => rintro u hu KR hR1; have oL := cnI_le N ch u; simp only [keepE, hupd, hset, lk, if_true, if_false, xE, reduceIte, zN, hps, rowS_p30, rowS_f37, List.length_replicate, Nat.le_add_right, hw, hc1.1, hc1.2, rowI_pur, rowI_snoc, rowI_len, rowI_frz, rowS_put, rowS_pur, rowS_frz, rowS_len, rowO_pur, rowO_frz, rowO_snoc, rowO_len, maxLen, numL_0, numL_len, stpL_len, opsL_len, List.length_append, List.length_cons, List.length_nil, Nat.le_refl]))))
 | ((refine callGK_s ?_ ?_) <;> (intro hc; (try rw [hc]); (try simp only [zB, zC, reduceCtorEq] at hc); (try (exfalso; contradiction))); (try (have hpb : prtB (N i) ch = true ∧ (N i).kd = 1 := (by assumption); clear mkP; clear hps; have hps := prtS_e hpb.1; have hbd := prt_bd ((nts_n hw).2 i (by omega)).1 hpb.1; have hkL := keepL_le (numL N ch n) (prt (N i) ch).a (prt (N i) ch).q)))
 | ((first | (with_reducible refine And.intro ?_ ?_) | (with_reducible refine Need.mk ?_)); focus (first | exact rowI_iv _ | first | exact True.intro | omega | (simp; done)))
 | (with_reducible refine retK_n ?_)
 | ((with_reducible show condN _ _ _ _ _ _); first
 | ((with_reducible refine condN_t ?_ ?_) <;> (intro hc; (try simp only [zB, zC, reduceCtorEq] at hc); ((try (have oL := cnI_le N ch i)); (try (have oL := cnI_le N ch u)); (try (have hNi := (hN i (by omega)).n)); (try (have hNi := (hN u (by omega)).n)); (try (have e0 : n = u := (by omega); subst e0; have mkB : mark2 := trivial))); (try (exfalso; omega)))))
 | ((with_reducible refine And.intro ?_ ?_); focus (((with_reducible show chkS _ _ _ _ = true); kernel_rfl)))
 | ((with_reducible refine And.intro ?_ ?_); focus ((with_reducible show chkR _ _ _ = true); kernel_rfl))
 | ((with_reducible show callN _ _ _ _ _ _ _ _ _ _); first
 | (refine callN_q (k := 50) fnok_50 (nts_p n N hn hN) ?_ ?_)
 | (refine callN_q (k := 65) fnok_65 (prtF_p (N i) ch (hN i (by omega))) ?_ ?_)
 | (refine callN_q (k := 65) fnok_65 (prtF_p (N u) ch (hN u (by omega))) ?_ ?_)
 | ((refine callN_i (k := 51) Tryz.func51 rfl fnok_51 (by rw [Tryz.ntmps51]; simp) ?_ ?_ (fun K hK => ?_)); (focus (exact True.intro)); (focus ((simp [lsF]; done))); simp only [Tryz.ntmps51, List.map_cons, List.map_nil, List.nil_append, List.cons_append, List.append_nil, LV.tv, argEnv, Nat.zero_add, Nat.reduceAdd]))
 | ((with_reducible show callDN _ _ _ _ _ _ _ _ _ _ _ _ _); first
 | (refine callDN_tq (k := 54) fnok_54 (del_k (numL N ch n) _ _ (numL_len _ _ _).symm _ _ (by exact num_eqv3 (numL_len _ _ _).symm) (by omega) (by rw [numL_len]; omega) _) ?_ rfl ?_ ?_)
 | (refine callDN_nq (k := 55) fnok_55 (clone_r _ _ (by omega)) ?_ ?_))
 | ((have q1 : mark2 := (by assumption); with_reducible refine aL (c := (Code.seq (Code.region 1 _ _) _)) (ι := Nat) [0,2,8,9] (fun i => [(10, iA .i64 (i : Int))]) (fun i => [(10, [.slc 30 0 (cnI N ch i).length 2]), (11, [.slc 31 0 (cnI N ch i).length 1]), (30, rowS (stpL N ch (numL N ch n) i)), (31, rowO (opsL N ch i))]) (fun i => i ≤ n) (fun i => n - i) 0 ?lg1b ?l11b ?l21b ?li1b ?lr1b); (case' lg1b => rintro i _); (case' li1b => try (omega)); (case' lr1b => rintro i hi KR hR1b; have oL := cnI_le N ch i; simp only [keepE, hupd, hset, lk, if_true, if_false, xE, reduceIte, zN, hps, rowS_p30, rowS_f37, List.length_replicate, Nat.le_add_right, hw, hc1.1, hc1.2, rowI_pur, rowI_snoc, rowI_len, rowI_frz, rowS_put, rowS_pur, rowS_frz, rowS_len, rowO_pur, rowO_frz, rowO_snoc, rowO_len, maxLen, numL_0, numL_len, stpL_len, opsL_len, List.length_append, List.length_cons, List.length_nil, Nat.le_refl]))
 | ((with_reducible refine hR1b _ (i + 1) ?_); (try clear hR1b KR))
 | ((with_reducible refine hR1 _ (u + 1) ?_); (try clear hR1 KR))
 | ((with_reducible refine Told.mk ?_); simp only [go_sem, reduceIte, reduceCtorEq, xA, xL, xD, xE, xM, xS, xB, intI, hps, rowS_p30, rowS_f37, List.length_replicate, Nat.le_add_right, hw, hc1.1, hc1.2, rowI_pur, rowI_snoc, rowI_len, rowI_frz, rowS_put, rowS_pur, rowS_frz, rowS_len, rowO_pur, rowO_frz, rowO_snoc, rowO_len, maxLen, numL_0, numL_len, stpL_len, opsL_len, List.length_append, List.length_cons, List.length_nil, Nat.le_refl] <;> (first | (((try simp (disch := omega) only [seaWrap, Int.natCast_add, Int.cast_ofNat_Int, and_true, true_and, and_self]); (repeat' (first | omega | rfl | (with_reducible refine And.intro ?_ ?_) | ((rw [stpL_f (cnc_f (by assumption))]; exact wkC_eq rfl (rowS_iv _))) | ((rw [opsL_f (cnc_f (by assumption))]; exact wkC_eq rfl (rowO_iv _))) | ((first | (rw [cnI_t (cnc_t (by assumption))]) | (rw [cnI_f (cnc_f (by assumption))]))) | ((rw [stpL_t (cnc_t (by assumption))]; exact wk_step (s := stpO (numL N ch n) (N i) (prt (N i) ch)) fun i o hi ho => row_pre _ _ i o hi ho)) | ((rw [opsL_t (cnc_t (by assumption))]; exact wkC_eq rfl (rowO_iv _))) | ((simp only [List.length_append, List.length_cons, List.length_nil, Nat.zero_add]; done)))); done)) | (((try simp (disch := omega) only [seaWrap, Int.natCast_add, Int.cast_ofNat_Int, and_true, true_and, and_self]); (repeat' (first | omega | (with_reducible refine And.intro ?_ ?_) | ((first | rw [numL_t (cnc_t (by assumption))] | rw [numL_f (cnc_f (by assumption))] | rw [cnI_t (cnc_t (by assumption))] | rw [cnI_f (cnc_f (by assumption))])) | ((exact wkC_eq rfl (rowI_iv _))) | ((simp only [List.length_append, List.length_cons, List.length_nil, Nat.zero_add]; done)))); done))))
 | ((fail_if_success (with_reducible show AW _ _ _ _)); simp (maxSteps := 2000000) only [go_sem, reduceIte, reduceCtorEq, xA, xL, xD, xE, xM, xS, xB, Tryz.f15, Tryz.f93, Tryz.f51, intI, hps, rowS_p30, rowS_f37, List.length_replicate, Nat.le_add_right, hw, hc1.1, hc1.2, rowI_pur, rowI_snoc, rowI_len, rowI_frz, rowS_put, rowS_pur, rowS_frz, rowS_len, rowO_pur, rowO_frz, rowO_snoc, rowO_len, maxLen, numL_0, numL_len, stpL_len, opsL_len, List.length_append, List.length_cons, List.length_nil, Nat.le_refl])
 | ((with_reducible show callN _ _ _ _ _ _ (.yld _) _ _ _); (refine callN_y (by simp only [lkL, if_true]; exact rfl) ?_ (by simp) ?_ ?_ (fun K hK => ?_)); (focus (exact True.intro)); (focus (simp [ltAll])); (focus ((simp [lsF]; done))); simp only [zipPut, gf, if_true, Nat.reduceAdd])
 | ((with_reducible refine hK _ ?_); clear hK K)
 | (with_reducible apply_assumption -exfalso only [*]))
  all_goals ((have e := st_ok hSt; have e0 : n = i := (by omega); subst e0; rw [e.1, e.2.1, e.2.2]; refine ⟨⟨fun c hc9 => ?_, fun c hc9 => ?_⟩, ⟨(stpL_len _ _ _ _).symm, fun i o hi ho => rowS_eqv _ i o (by rw [stpL_len]; exact hi) ho⟩, ⟨(opsL_len _ _ _).symm, fun i o hi ho => rowO_eqv2 _ i o (by rw [opsL_len]; exact hi) ho⟩, rfl⟩; (have := rowS_iv _ c hc9; cases c <;> trivial); (have := rowO_iv _ c hc9; cases c <;> trivial)))
theorem st_p (n : Nat) (N : Nat → NotS) (ch : Int) (hn : n ≤ 9223372036854775807) (hN : ∀ i, i < n → (N i).Ok) : CallsP Tryz.prog 15 [.one (.lst 7 n (notF N)), .one (.g (.int .i64 ch))] (.tup [.one (.lst 2 (StL n N ch).length (stpF (StL n N ch))), .one (.lst 1 (OpL n N ch).length (opsF (OpL n N ch))), .one (.g (.int .i64 (StE n N ch)))]) := by
  cases hB : StB n N ch with
  | false => exact st_f n N ch hn hN hB
  | true => exact st_t n N ch hn hN hB
end Go.Proofs.YtdhgiklbkmkblaaGreat
namespace Go.Proofs.YtdhgiklbkmkblaaGreat
open Go.RowKit Go.Sea
def opZ (kd d s : Int) : OpS := ⟨kd, 1, feat0, 0, 0, 0, d, s⟩
def plnP (ch af : Int) (op : OpS) : PartS := ⟨ch, if 0 < af then 1 else 0, fun _ => af, 1, fun _ => op⟩
def plnN (nu ch af : Int) (op : OpS) : NotS := ⟨1, nu, 1, 0, 0, 0, 1, fun _ => plnP ch af op⟩
def ntcN : Nat → NotS
  | 0 => plnN 4 7 0 (opZ 5 0 0)
  | 1 => plnN 5 7 4 (opZ 4 20 0)
  | 2 => plnN 6 8 0 (opZ 5 0 0)
  | 3 => plnN 7 7 5 (opZ 5 0 2)
  | _ => plnN 9 7 8 (opZ 2 0 0)
def wrkF : Feat := ⟨1, 2, 0, 0, 5, 0, fun _ _ => 0, 30, 0, 0, fun _ _ => 0⟩
def wrkS : ShtS := ⟨7, 1, 3, ⟨1000000, 0, 0, 0, 1000000, 0, 0⟩, 100000, 1, fun _ => 4, 1, fun _ => wrkF⟩
def g1 (x : Int) (i : Nat) : Int := x
def g2 (x y : Int) (i : Nat) : Int := if i = 0 then x else y
theorem hd_s : shtB wrkS = true := by kernel_rfl
theorem hd_1 : ApE wrkS (ntcN 1) = 0 := by kernel_rfl
attribute [go_sem] hd_1
theorem hd_1n : (ApS wrkS (ntcN 1)).n = 1 := by kernel_rfl
theorem hd_1d : ((ApS wrkS (ntcN 1)).f 0).d = 20 := by kernel_rfl
theorem hd_1q : eqLI (ApS wrkS (ntcN 1)).q 2 (ApS wrkS (ntcN 1)).dn (g2 4 5) = true := by kernel_rfl
theorem hd_3 : ApE wrkS (ntcN 3) = 16 := by kernel_rfl
theorem hd_0 : ApE wrkS (ntcN 0) = 5 := by kernel_rfl
theorem hd_2 : ApE wrkS (ntcN 2) = 4 := by kernel_rfl
attribute [go_sem] hd_3 hd_0 hd_2
theorem hd_u : UpV wrkS 5 ntcN = 4 ∧ UpE wrkS 5 ntcN = 0 := ⟨by kernel_rfl, by kernel_rfl⟩
theorem hd_x : NxV wrkS 5 ntcN = 5 ∧ NxE wrkS 5 ntcN = 0 := ⟨by kernel_rfl, by kernel_rfl⟩
theorem hd_c1 : CorI wrkS 5 ntcN 1 (g1 7) = 0 ∧ CorE wrkS 5 ntcN 1 (g1 7) = 16 := ⟨by kernel_rfl, by kernel_rfl⟩
theorem hd_c2 : CorI wrkS 5 ntcN 2 (g2 5 7) = -1 ∧ CorE wrkS 5 ntcN 2 (g2 5 7) = 0 := ⟨by kernel_rfl, by kernel_rfl⟩
theorem hd_c3 : (CorS wrkS 5 ntcN 2 (g2 5 7)).ed = 3 := by kernel_rfl
theorem hd_m : MkE wrkS 4 ntcN = 0 ∧ (MkS wrkS 4 ntcN).ed = 4 := ⟨by kernel_rfl, by kernel_rfl⟩
theorem hd_m5 : MkE wrkS 5 ntcN = 16 := by kernel_rfl
theorem hd_b : BrE wrkS (MkS wrkS 4 ntcN) 4 ntcN = 0 := by kernel_rfl
theorem hd_bl : eqLI (BrL wrkS (MkS wrkS 4 ntcN) 4 ntcN).length 2 (zL (BrL wrkS (MkS wrkS 4 ntcN) 4 ntcN)) (g2 5 7) = true := by kernel_rfl
theorem hd_p : CpV (CorS wrkS 5 ntcN 2 (g2 5 7)) (MkS wrkS 4 ntcN) = 0 ∧ CpE (CorS wrkS 5 ntcN 2 (g2 5 7)) (MkS wrkS 4 ntcN) = 0 := ⟨by kernel_rfl, by kernel_rfl⟩
theorem hd_u4 : UpV (MkS wrkS 4 ntcN) 4 ntcN = 7 ∧ UpE (MkS wrkS 4 ntcN) 4 ntcN = 0 := ⟨by kernel_rfl, by kernel_rfl⟩
theorem hd_u5 : UpV (MkS wrkS 4 ntcN) 5 ntcN = 7 ∧ UpE (MkS wrkS 4 ntcN) 5 ntcN = 0 := ⟨by kernel_rfl, by kernel_rfl⟩
theorem hd_st : StE 5 ntcN 7 = 0 ∧ (StL 5 ntcN 7).length = 4 ∧ (OpL 5 ntcN 7).length = 4 := ⟨by kernel_rfl, by kernel_rfl, by kernel_rfl⟩
theorem hd_s3 : ((StL 5 ntcN 7).getD 3 stp0).q = 0 := by kernel_rfl
theorem hd_s2 : eqLI ((StL 5 ntcN 7).getD 2 stp0).q 1 ((StL 5 ntcN 7).getD 2 stp0).a (g1 5) = true := by kernel_rfl
end Go.Proofs.YtdhgiklbkmkblaaGreat
set_option maxRecDepth 100000
set_option maxHeartbeats 4000000
namespace Go.Proofs.YtdhgiklbkmkblaaGreat
open Go.RowKit Go.Sea
open Nat renaming reduceAdd → xA, reduceLT → xL, reduceLeDiff → xD, reduceEqDiff → xE, reduceMul → xM, reduceSub → xS, reduceBEq → xB
theorem ar_38 : arD Tryz.prog 38 = none := by kernel_rfl
theorem fnok_12 : fnOk Tryz.prog 12 = true := by kernel_rfl
theorem fnok_15 : fnOk Tryz.prog 15 = true := by kernel_rfl
theorem fnok_19 : fnOk Tryz.prog 19 = true := by kernel_rfl
theorem fnok_21 : fnOk Tryz.prog 21 = true := by kernel_rfl
theorem fnok_23 : fnOk Tryz.prog 23 = true := by kernel_rfl
theorem fnok_25 : fnOk Tryz.prog 25 = true := by kernel_rfl
theorem fnok_27 : fnOk Tryz.prog 27 = true := by kernel_rfl
theorem fnok_29 : fnOk Tryz.prog 29 = true := by kernel_rfl
theorem fnok_39 : fnOk Tryz.prog 39 = true := by kernel_rfl
theorem fnok_40 : fnOk Tryz.prog 40 = true := by kernel_rfl
theorem fnok_78 : fnOk Tryz.prog 78 = true := by kernel_rfl
theorem fo_23 : fieldsOk Tryz.prog 23 = true := by kernel_rfl
theorem le_38 : lenD Tryz.prog 38 = some true := by kernel_rfl
theorem le_39 : lenD Tryz.prog 39 = some true := by kernel_rfl
theorem pl_23_0 : placeF Tryz.prog 23 0 = some (0, 1) := by kernel_rfl
theorem pl_23_4 : placeF Tryz.prog 23 4 = some (4, 1) := by kernel_rfl
theorem pl_27_0 : placeF Tryz.prog 27 0 = some (0, 1) := by kernel_rfl
theorem pl_27_1 : placeF Tryz.prog 27 1 = some (1, 1) := by kernel_rfl
theorem pl_27_2 : placeF Tryz.prog 27 2 = some (2, 1) := by kernel_rfl
theorem pl_27_3 : placeF Tryz.prog 27 3 = some (3, 7) := by kernel_rfl
theorem pl_27_4 : placeF Tryz.prog 27 4 = some (10, 1) := by kernel_rfl
theorem pl_27_5 : placeF Tryz.prog 27 5 = some (11, 1) := by kernel_rfl
theorem pl_30_0 : placeF Tryz.prog 30 0 = some (0, 1) := by kernel_rfl
theorem pl_30_1 : placeF Tryz.prog 30 1 = some (1, 1) := by kernel_rfl
theorem pl_30_2 : placeF Tryz.prog 30 2 = some (2, 1) := by kernel_rfl
theorem pl_30_6 : placeF Tryz.prog 30 6 = some (6, 1) := by kernel_rfl
theorem pl_58_0 : placeF Tryz.prog 58 0 = some (0, 1) := by kernel_rfl
theorem pl_58_2 : placeF Tryz.prog 58 2 = some (2, 1) := by kernel_rfl
theorem pl_75_0 : placeF Tryz.prog 75 0 = some (0, 1) := by kernel_rfl
theorem pl_75_1 : placeF Tryz.prog 75 1 = some (1, 1) := by kernel_rfl
theorem pl_75_3 : placeF Tryz.prog 75 3 = some (4, 1) := by kernel_rfl
theorem pl_75_5 : placeF Tryz.prog 75 5 = some (6, 1) := by kernel_rfl
theorem pl_91_5 : placeF Tryz.prog 91 5 = some (14, 1) := by kernel_rfl
theorem pl_91_6 : placeF Tryz.prog 91 6 = some (15, 1) := by kernel_rfl
theorem zc_23 : zeroC Tryz.prog 23 = some [.iv (.g (.int .i64 0)), .iv (.g (.int .i64 0)), .iv (.g (.int .i64 0)), .iv (.g (.int .i64 0)), .iv (.g (.int .i64 0)), .iv (.g (.int .i64 0)), .iv (.g (.int .i64 0))] := by kernel_rfl
attribute [go_sem] ar_38 fnok_12 fnok_15 fnok_19 fnok_21 fnok_23 fnok_25 fnok_27 fnok_29 fnok_39 fnok_40 fnok_78 fo_23 le_38 le_39 pl_23_0 pl_23_4 pl_27_0 pl_27_1 pl_27_2 pl_27_3 pl_27_4 pl_27_5 pl_30_0 pl_30_1 pl_30_2 pl_30_6 pl_58_0 pl_58_2 pl_75_0 pl_75_1 pl_75_3 pl_75_5 pl_91_5 pl_91_6 zc_23
theorem plnP_a (ch af : Int) (op : OpS) (h : 0 < af) : plnP ch af op = ⟨ch, 1, fun _ => af, 1, fun _ => op⟩ := by unfold plnP; rw [if_pos h]
theorem plnP_0 (ch : Int) (op : OpS) : plnP ch 0 op = ⟨ch, 0, fun _ => 0, 1, fun _ => op⟩ := rfl
theorem pln_z (nu ch af kd d s : Int) (h0 : af = 0) : CallsP Tryz.prog 78 [.one (.g (.int .i64 nu)), .one (.g (.int .i64 ch)), .one (.g (.int .i64 af)), .agg [.g (.int .i64 kd), .g (.int .i64 1), .g (.int .i64 0), .g (.int .i64 0), .g (.int .i64 0), .g (.int .i64 0), .g (.int .i64 0), .g (.slice none 0 0), .g (.int .i64 0), .g (.int .i64 0), .g (.slice none 0 0), .g (.int .i64 0), .g (.int .i64 0), .g (.int .i64 0), .g (.int .i64 d), .g (.int .i64 s)]] (.t ((noP (plnN nu ch af (opZ kd d s))))) := by
  refine CallsP_of Tryz.func78 rfl (by rw [Tryz.ntmps78]; simp) ?_
  simp only [noP, Tryz.ntmps78, zM, PT.tv, argEnv, Nat.zero_add, Nat.reduceAdd]
  repeat' (first
 | ((with_reducible show AW _ _ _ _); first
 | (with_reducible first | refine aS (fun K hK => ?_) | refine aI ?_ | refine aT ?_ | refine aC ?_)
 | (first
 | (with_reducible first | refine aP 0 [0,1,2,3] ?_ | refine aP 1 [0,1,2,7,8] ?_ | refine aP 2 [0,2,8,9] ?_ | refine AW_frz (c := Code.region 4 _ false) [2] ?_ (aP 4 [0,8,9] ?_))))
 | ((first | (with_reducible refine And.intro ?_ ?_) | (with_reducible refine Need.mk ?_)); focus (exact True.intro))
 | (with_reducible refine retK_n ?_)
 | ((with_reducible show condN _ _ _ _ _ _); first
 | ((with_reducible refine condN_t ?_ ?_) <;> (intro hc; (try simp only [zB, zC, reduceCtorEq] at hc); (try (exfalso; contradiction)))))
 | ((fail_if_success (with_reducible show AW _ _ _ _)); simp (maxSteps := 2000000) only [go_sem, reduceIte, reduceCtorEq, xA, xL, xD, xE, xM, xS, xB, Tryz.f78, h0, Int.lt_irrefl])
 | ((with_reducible refine hK _ ?_); clear hK K))
  all_goals ((refine ⟨rfl, rfl, rfl, rfl, rfl, rfl, rfl, fun i o hi ho => ?_⟩; obtain rfl : i = 0 := (by omega); show IV.eqv _ (partG (plnP ch 0 (opZ kd d s)) o); rw [plnP_0]; rcases (by omega : o = 0 ∨ o = 1 ∨ o = 2) with rfl | rfl | rfl; (rfl); (exact ⟨rfl, rfl⟩); (refine ⟨rfl, rfl, fun p u hp hu => ?_⟩; obtain rfl : p = 0 := (by omega); rcases (by omega : u = 0 ∨ u = 1 ∨ u = 2 ∨ u = 3 ∨ u = 4 ∨ u = 5 ∨ u = 6 ∨ u = 7 ∨ u = 8 ∨ u = 9 ∨ u = 10 ∨ u = 11 ∨ u = 12 ∨ u = 13 ∨ u = 14 ∨ u = 15) with rfl | rfl | rfl | rfl | rfl | rfl | rfl | rfl | rfl | rfl | rfl | rfl | rfl | rfl | rfl | rfl <;> first | rfl | exact ⟨rfl, rfl⟩)))
theorem pln_a (nu ch af kd d s : Int) (h0 : 0 < af) : CallsP Tryz.prog 78 [.one (.g (.int .i64 nu)), .one (.g (.int .i64 ch)), .one (.g (.int .i64 af)), .agg [.g (.int .i64 kd), .g (.int .i64 1), .g (.int .i64 0), .g (.int .i64 0), .g (.int .i64 0), .g (.int .i64 0), .g (.int .i64 0), .g (.slice none 0 0), .g (.int .i64 0), .g (.int .i64 0), .g (.slice none 0 0), .g (.int .i64 0), .g (.int .i64 0), .g (.int .i64 0), .g (.int .i64 d), .g (.int .i64 s)]] (.t ((noP (plnN nu ch af (opZ kd d s))))) := by
  refine CallsP_of Tryz.func78 rfl (by rw [Tryz.ntmps78]; simp) ?_
  simp only [noP, Tryz.ntmps78, zM, PT.tv, argEnv, Nat.zero_add, Nat.reduceAdd]
  repeat' (first
 | ((with_reducible show AW _ _ _ _); first
 | (with_reducible first | refine aS (fun K hK => ?_) | refine aT ?_ | refine aC ?_)
 | (first
 | (with_reducible first | refine aP 0 [0,1,2,3] ?_ | refine aP 1 [0,1,2,7,8] ?_ | refine aP 2 [0,2,8,9] ?_ | refine aP 3 [0,2,8,9] ?_ | refine AW_frz (c := Code.region 4 _ false) [2,4] ?_ (aP 4 [0,8,9] ?_))))
 | ((first | (with_reducible refine And.intro ?_ ?_) | (with_reducible refine Need.mk ?_)); focus (exact True.intro))
 | (with_reducible refine retK_n ?_)
 | ((with_reducible show condN _ _ _ _ _ _); first
 | ((with_reducible refine condN_t ?_ ?_) <;> (intro hc; (try simp only [zB, zC, reduceCtorEq] at hc); (try (exfalso; omega)))))
 | ((fail_if_success (with_reducible show AW _ _ _ _)); simp (maxSteps := 2000000) only [go_sem, reduceIte, reduceCtorEq, xA, xL, xD, xE, xM, xS, xB, Tryz.f78])
 | ((with_reducible refine hK _ ?_); clear hK K))
  all_goals ((refine ⟨rfl, rfl, rfl, rfl, rfl, rfl, rfl, fun i o hi ho => ?_⟩; obtain rfl : i = 0 := (by omega); show IV.eqv _ (partG (plnP ch af (opZ kd d s)) o); rw [plnP_a _ _ _ h0]; rcases (by omega : o = 0 ∨ o = 1 ∨ o = 2) with rfl | rfl | rfl; (rfl); (exact ⟨rfl, rfl, fun p q hp hq => (by obtain rfl : p = 0 := (by omega); obtain rfl : q = 0 := (by omega); rfl)⟩); (refine ⟨rfl, rfl, fun p u hp hu => ?_⟩; obtain rfl : p = 0 := (by omega); rcases (by omega : u = 0 ∨ u = 1 ∨ u = 2 ∨ u = 3 ∨ u = 4 ∨ u = 5 ∨ u = 6 ∨ u = 7 ∨ u = 8 ∨ u = 9 ∨ u = 10 ∨ u = 11 ∨ u = 12 ∨ u = 13 ∨ u = 14 ∨ u = 15) with rfl | rfl | rfl | rfl | rfl | rfl | rfl | rfl | rfl | rfl | rfl | rfl | rfl | rfl | rfl | rfl <;> first | rfl | exact ⟨rfl, rfl⟩)))
theorem ntc_p  : CallsP Tryz.prog 39 [] (.t (.one (.lst 7 5 (notF ntcN)))) := by
  refine CallsP_of Tryz.func39 rfl (by rw [Tryz.ntmps39]; simp) ?_
  simp only [Tryz.ntmps39, zM, PT.tv, argEnv, Nat.zero_add, Nat.reduceAdd]
  repeat' (first
 | ((with_reducible show AW _ _ _ _); first
 | (with_reducible first | refine aS (fun K hK => ?_) | refine aT ?_)
 | (first
 | (with_reducible first | refine aP 0 [] ?_ | refine aP 1 [] ?_)))
 | (((with_reducible refine Need.mk ?_)); focus (exact True.intro))
 | (with_reducible refine retK_n ?_)
 | ((with_reducible show callN _ _ _ _ _ _ _ _ _ _); first
 | (refine callN_q (k := 78) fnok_78 (pln_z 4 7 0 5 0 0 rfl) ?_ ?_)
 | (refine callN_q (k := 78) fnok_78 (pln_a 5 7 4 4 20 0 (by omega)) ?_ ?_)
 | (refine callN_q (k := 78) fnok_78 (pln_z 6 8 0 5 0 0 rfl) ?_ ?_)
 | (refine callN_q (k := 78) fnok_78 (pln_a 7 7 5 5 0 2 (by omega)) ?_ ?_)
 | (refine callN_q (k := 78) fnok_78 (pln_a 9 7 8 2 0 0 (by omega)) ?_ ?_))
 | ((fail_if_success (with_reducible show AW _ _ _ _)); simp (maxSteps := 2000000) only [go_sem, reduceIte, reduceCtorEq, xA, xL, xD, xE, xM, xS, xB, Tryz.f39])
 | ((with_reducible refine hK _ ?_); clear hK K))
  all_goals ((intro i u hi hu; rcases (by omega : i = 0 ∨ i = 1 ∨ i = 2 ∨ i = 3 ∨ i = 4) with rfl | rfl | rfl | rfl | rfl <;> rcases (by omega : u = 0 ∨ u = 1 ∨ u = 2 ∨ u = 3 ∨ u = 4 ∨ u = 5 ∨ u = 6) with rfl | rfl | rfl | rfl | rfl | rfl | rfl <;> exact IV.eqv_refl _))
theorem wrk_p  : CallsP Tryz.prog 40 [] (.t ((shP wrkS))) := by
  refine CallsP_of Tryz.func40 rfl (by rw [Tryz.ntmps40]; simp) ?_
  simp only [shP, Tryz.ntmps40, zM, PT.tv, argEnv, Nat.zero_add, Nat.reduceAdd]
  repeat' (first
 | ((with_reducible show AW _ _ _ _); first
 | (with_reducible first | refine aS (fun K hK => ?_) | refine aT ?_)
 | (first
 | (with_reducible first | refine aP 0 [] ?_ | refine aP 1 [0] ?_ | refine aP 2 [0,1] ?_ | refine aP 3 [0,1] ?_)))
 | (with_reducible refine retK_n ?_)
 | ((fail_if_success (with_reducible show AW _ _ _ _)); simp (maxSteps := 2000000) only [go_sem, reduceIte, reduceCtorEq, xA, xL, xD, xE, xM, xS, xB, Tryz.f40])
 | ((with_reducible refine hK _ ?_); clear hK K))
  all_goals ((refine ⟨rfl, rfl, rfl, rfl, rfl, rfl, rfl, rfl, rfl, rfl, rfl, ⟨rfl, fun i o hi ho => ?_⟩, rfl, fun i u hi hu => ?_⟩; (obtain rfl : i = 0 := (by omega); obtain rfl : o = 0 := (by omega); rfl); (obtain rfl : i = 0 := (by omega); rcases (by omega : u = 0 ∨ u = 1 ∨ u = 2 ∨ u = 3 ∨ u = 4 ∨ u = 5 ∨ u = 6 ∨ u = 7 ∨ u = 8) with rfl | rfl | rfl | rfl | rfl | rfl | rfl | rfl | rfl <;> first | rfl | exact ⟨rfl, rfl⟩)))
theorem ints_q (q : Nat) (a : Nat → Int) (m : Nat) (G : Nat → Int) (F : Nat → Nat → IV) (hq : q ≤ 9223372036854775807) (hm : m ≤ 9223372036854775807) (h : ∀ i o, i < m → o < 1 → (F i o).eqv (.g (.int .i64 (G i)))) : CallsP Tryz.prog 17 [.one (.lst 1 q (intI a)), .one (.lst 1 m F)] (.t (.one (.g (.bool (eqLI q m a G))))) :=
  (ints18_p q m a G hq hm).eqv (args' := [.one (.lst 1 q (intI a)), .one (.lst 1 m F)]) ⟨IV.eqv_refl _, ⟨rfl, rfl, h⟩, trivial⟩ (PV.eqv_refl _)
theorem cor_q (s : ShtS) (n : Nat) (N : Nat → NotS) (k : Nat) (od : Nat → Int) (hs : s.Ok) (hn : n ≤ 9223372036854775807) (hN : ∀ i, i < n → (N i).Ok) (hk : k ≤ 9223372036854775807) (F : Nat → Nat → IV) (h : ∀ i o, i < k → o < 1 → (F i o).eqv (.g (.int .i64 (od i)))) : CallsP Tryz.prog 19 [(shP s), .one (.lst 7 n (notF N)), .one (.lst 1 k F)] (.tup [(shP (CorS s n N k od)), .one (.g (.int .i64 (CorI s n N k od))), .one (.g (.int .i64 (CorE s n N k od)))]) :=
  (cor_p s n N k od hs hn hN hk).eqv ⟨PT.eqv_refl _, PT.eqv_refl _, ⟨rfl, rfl, h⟩, trivial⟩ (PV.eqv_refl _)
theorem hd_q1 : (ApS wrkS (ntcN 1)).q = 2 := by kernel_rfl
theorem hd_q2 : (BrL wrkS (MkS wrkS 4 ntcN) 4 ntcN).length = 2 := by kernel_rfl
theorem hd_q3 : ((StL 5 ntcN 7).getD 2 stp0).q = 1 := by kernel_rfl
theorem wrk_ok : wrkS.Ok := sht_ok hd_s
theorem plnN_ok (nu ch af : Int) (op : OpS) (h : op.f.Ok) : (plnN nu ch af op).Ok := ⟨(show (1 : Nat) ≤ 9223372036854775807 from by decide), fun j hj => ⟨(show (if 0 < af then 1 else 0 : Nat) ≤ 9223372036854775807 from by split <;> decide), (show (1 : Nat) ≤ 9223372036854775807 from by decide), fun k hk => h⟩⟩
theorem ntc_ok (i : Nat) : (ntcN i).Ok := by
  rcases i with _ | _ | _ | _ | i <;> exact plnN_ok _ _ _ _ feat0_ok
theorem mks_ok : (MkS wrkS 4 ntcN).Ok := by
  have h : shtB (MkS wrkS 4 ntcN) = true := by kernel_rfl
  exact sht_ok h
theorem cors_ok : (CorS wrkS 5 ntcN 2 (g2 5 7)).Ok := by
  have h : shtB (CorS wrkS 5 ntcN 2 (g2 5 7)) = true := by kernel_rfl
  exact sht_ok h
set_option maxHeartbeats 16000000 in
theorem head_p  : CallsP Tryz.prog 10 [] (.t (.one (.g (.bool true)))) := by
  refine CallsP_of Tryz.func10 rfl (by rw [Tryz.ntmps10]; simp) ?_
  simp only [Tryz.ntmps10, zM, PT.tv, argEnv, Nat.zero_add, Nat.reduceAdd]
  repeat' (first
 | ((with_reducible show callN _ _ (some 103) _ _ _ _ _ _ _); (refine callN_zq (k := 19) [9] ?_ ?_))
 | ((with_reducible show callN _ _ (some 111) _ _ _ _ _ _ _); (refine callN_zq (k := 19) [18] ?_ ?_))
 | ((with_reducible show AW _ _ _ _); first
 | (with_reducible first | refine aS (fun K hK => ?_) | refine aI ?_ | refine aT ?_ | refine aC ?_)
 | (first
 | (with_reducible first | refine aP 0 [] ?_ | refine aP 1 [] ?_)
 | ((with_reducible refine aR (c := Code.region 2 _ true) [1] ?_); (with_reducible refine aD ?_ ?_ ?_ ?_); (focus kernel_rfl); (focus kernel_rfl); (focus kernel_rfl))
 | ((with_reducible refine aR (c := Code.region 3 _ true) [1,2,3] ?_); (with_reducible refine aD ?_ ?_ ?_ ?_); (focus kernel_rfl); (focus kernel_rfl); (focus kernel_rfl))
 | ((with_reducible refine aR (c := Code.region 4 _ true) [1,2,3,5] ?_); (with_reducible refine aD ?_ ?_ ?_ ?_); (focus kernel_rfl); (focus kernel_rfl); (focus kernel_rfl))
 | ((with_reducible refine aR (c := Code.region 5 _ true) [1,2,3,5,7] ?_); (with_reducible refine aD ?_ ?_ ?_ ?_); (focus kernel_rfl); (focus kernel_rfl); (focus kernel_rfl))
 | (with_reducible first | refine aP 6 [1,2,3,5,7,9] ?_ | refine aP 8 [1,2] ?_ | refine aP 9 [1,10] ?_ | refine aP 10 [1,3,10,11] ?_ | refine aP 11 [1,3,5,10,11,12] ?_ | refine aP 12 [1,3,5,7,10,11,12,14] ?_ | refine aP 13 [1,3,5,7,9,10,11,12,14,15,16] ?_)
 | ((with_reducible refine aR (c := Code.region 14 _ true) [1,10,15] ?_); (with_reducible refine aD ?_ ?_ ?_ ?_); (focus kernel_rfl); (focus kernel_rfl); (focus kernel_rfl))
 | (with_reducible refine aP 15 [1,3,10,15,17] ?_)
 | ((with_reducible refine aR (c := Code.region 16 _ true) [1,3,5,10,15,17] ?_); (with_reducible refine aD ?_ ?_ ?_ ?_); (focus kernel_rfl); (focus kernel_rfl); (focus kernel_rfl))
 | (with_reducible first | refine aP 17 [1,3,5,7,10,15,17,18] ?_ | refine aP 18 [1,3,5,7,9,10,15,17,18,19] ?_)
 | ((with_reducible refine aR (c := Code.region 19 _ true) [1,10,17] ?_); (with_reducible refine aD ?_ ?_ ?_ ?_); (focus kernel_rfl); (focus kernel_rfl); (focus kernel_rfl))
 | (with_reducible first | refine aP 20 [1,3,10,11,17] ?_ | refine aP 21 [1,3,5,10,11,12] ?_ | refine aP 22 [3,5,7,10,11,12,20,21] ?_)))
 | ((first | (with_reducible refine And.intro ?_ ?_) | (with_reducible refine Need.mk ?_)); focus (first | exact True.intro | omega | (intro _; exact True.intro) | (simp; done)))
 | (with_reducible refine retK_n ?_)
 | ((with_reducible show condN _ _ _ _ _ _); first
 | ((with_reducible refine condN_t ?_ ?_) <;> (intro hc; (try simp only [zB, zC, reduceCtorEq] at hc); (try (exfalso; contradiction)))))
 | ((with_reducible refine And.intro ?_ ?_); focus ((with_reducible show chkR _ _ _ = true); kernel_rfl))
 | ((with_reducible show callN _ _ _ _ _ _ _ _ _ _); first
 | (refine callN_q (k := 39) fnok_39 (ntc_p) ?_ ?_)
 | (refine callN_q (k := 40) fnok_40 (wrk_p) ?_ ?_)
 | (refine callN_q (k := 23) fnok_23 (up_p wrkS 5 ntcN wrk_ok (by omega) (fun i _ => ntc_ok i)) ?_ ?_)
 | (refine callN_q (k := 23) fnok_23 (up_p (MkS wrkS 4 ntcN) 5 ntcN mks_ok (by omega) (fun i _ => ntc_ok i)) ?_ ?_)
 | (refine callN_q (k := 25) fnok_25 (nx_p wrkS 5 ntcN wrk_ok (by omega) (fun i _ => ntc_ok i)) ?_ ?_)
 | (refine callN_q (k := 19) fnok_19 (cor_q wrkS 5 ntcN 1 (g1 7) wrk_ok (by omega) (fun i _ => ntc_ok i) (by omega) _ (fun i o hi ho => by obtain rfl : i = 0 := (by omega); obtain rfl : o = 0 := (by omega); rfl)) ?_ ?_)
 | (refine callN_q (k := 19) fnok_19 (cor_q wrkS 5 ntcN 2 (g2 5 7) wrk_ok (by omega) (fun i _ => ntc_ok i) (by omega) _ (fun i o hi ho => by obtain rfl : o = 0 := (by omega); rcases (by omega : i = 0 ∨ i = 1) with rfl | rfl <;> rfl)) ?_ ?_)
 | (refine callN_q (k := 21) fnok_21 (mk_p wrkS 5 ntcN wrk_ok (by omega) (fun i _ => ntc_ok i)) ?_ ?_)
 | (refine callN_q (k := 29) fnok_29 (cp_p (CorS wrkS 5 ntcN 2 (g2 5 7)) (MkS wrkS 4 ntcN) cors_ok mks_ok) ?_ ?_)
 | (refine callN_q (k := 15) fnok_15 (st_p 5 ntcN 7 (by omega) (fun i _ => ntc_ok i)) ?_ ?_))
 | ((with_reducible show callDN _ _ _ _ _ _ _ _ _ _ _ _ _); first
 | (refine callDN_q (k := 40) fnok_40 (wrk_p) ?_ ?_)
 | (refine callDN_q (k := 12) fnok_12 (edAp_p wrkS (ntcN 0) wrk_ok (ntc_ok _)) ?_ ?_)
 | (refine callDN_q (k := 12) fnok_12 (edAp_p wrkS (ntcN 1) wrk_ok (ntc_ok _)) ?_ ?_)
 | (refine callDN_q (k := 12) fnok_12 (edAp_p wrkS (ntcN 2) wrk_ok (ntc_ok _)) ?_ ?_)
 | (refine callDN_q (k := 12) fnok_12 (edAp_p wrkS (ntcN 3) wrk_ok (ntc_ok _)) ?_ ?_)
 | (refine callDN_q (k := 23) fnok_23 (up_p (MkS wrkS 4 ntcN) 4 ntcN mks_ok (by omega) (fun i _ => ntc_ok i)) ?_ ?_)
 | (refine callDN_q (k := 21) fnok_21 (mk_p wrkS 4 ntcN wrk_ok (by omega) (fun i _ => ntc_ok i)) ?_ ?_)
 | (refine callDN_q (k := 27) fnok_27 (br_p wrkS (MkS wrkS 4 ntcN) 4 ntcN wrk_ok mks_ok (by omega) (fun i _ => ntc_ok i)) ?_ ?_))
 | ((with_reducible show callGN _ _ _ _ _ _ _ _ _ _); first
 | (refine callGN_q (k := 17) fnok_17 (fun hg => ints_q (ApS wrkS (ntcN 1)).q (ApS wrkS (ntcN 1)).dn 2 (g2 4 5) _ (by rw [hd_q1]; omega) (by omega) (fun i o hi ho => by obtain rfl : o = 0 := (by omega); rcases (by omega : i = 0 ∨ i = 1) with rfl | rfl <;> rfl)) ?_ ?_)
 | (refine callGN_q (k := 17) fnok_17 (fun hg => ints_q (BrL wrkS (MkS wrkS 4 ntcN) 4 ntcN).length (zL (BrL wrkS (MkS wrkS 4 ntcN) 4 ntcN)) 2 (g2 5 7) _ (by rw [hd_q2]; omega) (by omega) (fun i o hi ho => by obtain rfl : o = 0 := (by omega); rcases (by omega : i = 0 ∨ i = 1) with rfl | rfl <;> rfl)) ?_ ?_)
 | (refine callGN_q (k := 17) fnok_17 (fun hg => ints_q ((StL 5 ntcN 7).getD 2 stp0).q ((StL 5 ntcN 7).getD 2 stp0).a 1 (g1 5) _ (by rw [hd_q3]; omega) (by omega) (fun i o hi ho => by obtain rfl : i = 0 := (by omega); obtain rfl : o = 0 := (by omega); rfl)) ?_ ?_))
 | ((fail_if_success (with_reducible show AW _ _ _ _)); simp (maxSteps := 2000000) only [go_sem, reduceIte, reduceCtorEq, xA, xL, xD, xE, xM, xS, xB, Tryz.f10, intI, stpF, stpG, Int.reduceToNat, Int.cast_ofNat_Int, beq_self_eq_true, Bool.and_self, Int.natCast_zero, Int.ofNat_zero, hd_1n, hd_1d, hd_1q, hd_u.1, hd_u.2, hd_x.1, hd_x.2, hd_c1.1, hd_c1.2, hd_c2.1, hd_c2.2, hd_c3, hd_m.1, hd_m.2, hd_m5, hd_b, hd_bl, hd_p.1, hd_p.2, hd_u4.1, hd_u4.2, hd_u5.1, hd_u5.2, hd_st.1, hd_st.2.1, hd_st.2.2, hd_s3, hd_s2])
 | ((with_reducible refine hK _ ?_); clear hK K))
end Go.Proofs.YtdhgiklbkmkblaaGreat
