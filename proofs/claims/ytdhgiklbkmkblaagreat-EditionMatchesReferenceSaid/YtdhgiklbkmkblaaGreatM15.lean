/- Part 15 of 16: contracts of functions and plain laws for the root text. No condition. -/
import Derived.Test.YtdhgiklbkmkblaaGreatM01
import Derived.Test.YtdhgiklbkmkblaaGreatM02
import Derived.Test.YtdhgiklbkmkblaaGreatM03
import Derived.Test.YtdhgiklbkmkblaaGreatM04
import Derived.Test.YtdhgiklbkmkblaaGreatM05
import Derived.Test.YtdhgiklbkmkblaaGreatM06
import Derived.Test.YtdhgiklbkmkblaaGreatM07
import Derived.Test.YtdhgiklbkmkblaaGreatM08
import Derived.Test.YtdhgiklbkmkblaaGreatM09
import Derived.Test.YtdhgiklbkmkblaaGreatM10
import Derived.Test.YtdhgiklbkmkblaaGreatM11
import Derived.Test.YtdhgiklbkmkblaaGreatM12
import Derived.Test.YtdhgiklbkmkblaaGreatM13
import Derived.Test.YtdhgiklbkmkblaaGreatM14
set_option linter.unusedVariables false
set_option linter.unusedSimpArgs false
set_option maxRecDepth 100000
set_option maxHeartbeats 4000000
namespace Go.Proofs.YtdhgiklbkmkblaaGreat
open Go.RowKit Go.Sea
open Nat renaming reduceAdd → xA, reduceLT → xL, reduceLeDiff → xD, reduceEqDiff → xE, reduceMul → xM, reduceSub → xS, reduceBEq → xB
theorem fnok_20 : fnOk Tryz.prog 20 = true := by kernel_rfl
attribute [go_sem] fnok_20
theorem CorS_bd {s : ShtS} {n : Nat} {N : Nat → NotS} {k : Nat} {od : Nat → Int} (hv : shtB s = true) : 0 ≤ (CorS s n N k od).ed ∧ (CorS s n N k od).ed ≤ 1000 := by
  have h := sht_ed hv
  unfold CorS
  split
  · split
    · exact ⟨Int.le_refl _, by decide⟩
    · rw [(corS_ed s n N od k).1]; omega
  · exact ⟨Int.le_refl _, by decide⟩
theorem corS_bd {s : ShtS} {n : Nat} {N : Nat → NotS} {od : Nat → Int} (hv : shtB s = true) (k : Nat) : 0 ≤ (corS s n N od k).ed ∧ (corS s n N od k).ed ≤ 1000 := by
  have h := sht_ed hv
  rw [(corS_ed s n N od k).1]; omega
theorem rmk_f (s : ShtS) (n : Nat) (N : Nat → NotS) (hs : s.Ok) (hn : n ≤ 9223372036854775807) (hN : ∀ i, i < n → (N i).Ok) (hB : mkB s n N = false) : CallsP Tryz.prog 22 [(shP s), .one (.lst 7 n (notF N))] (.tup [(shP (MkS s n N)), .one (.g (.int .i64 (MkE s n N)))]) := by
  refine CallsP_of Tryz.func22 rfl (by rw [Tryz.ntmps22]; simp) ?_
  simp only [shP, Tryz.ntmps22, zM, PT.tv, argEnv, Nat.zero_add, Nat.reduceAdd]
  repeat' (first
 | ((with_reducible show AW _ _ _ _); first
 | (with_reducible first | refine aS (fun K hK => ?_) | refine aI ?_ | refine aT ?_ | refine aC ?_)
 | ((with_reducible first | refine aP 0 [0,1] ?_ | refine aP 1 [1,2,4] ?_ | refine aP 2 [1,2,4,6] ?_ | refine aP 3 [1,2,4,6,7] ?_ | refine aP 4 [4] ?_)))
 | ((first | (with_reducible refine And.intro ?_ ?_) | (with_reducible refine Need.mk ?_)); focus (first | exact True.intro | (simp; done)))
 | (with_reducible refine retK_n ?_)
 | ((with_reducible show condN _ _ _ _ _ _); first
 | ((with_reducible refine condN_t ?_ ?_) <;> (intro hc; (try simp only [zB, zC, reduceCtorEq] at hc); (try (exfalso; contradiction)))))
 | ((with_reducible show callN _ _ _ _ _ _ _ _ _ _); first
 | (refine callN_q (k := 44) fnok_44 (rsheet_p s hs) ?_ ?_)
 | (refine callN_q (k := 36) fnok_36 (rnts_p n N hn hN) ?_ ?_))
 | ((fail_if_success (with_reducible show AW _ _ _ _)); simp (maxSteps := 2000000) only [go_sem, reduceIte, reduceCtorEq, xA, xL, xD, xE, xM, xS, xB, Tryz.f22, intI])
 | ((with_reducible refine hK _ ?_); clear hK K))
  all_goals (first | (have e := mk_bad hB; rw [e.1, e.2]; (repeat' (first | exact rfl | (with_reducible refine And.intro ?_ ?_))); done) | exact (mk_no hB hc).elim)
theorem rmk_3 (s : ShtS) (n : Nat) (N : Nat → NotS) (hs : s.Ok) (hn : n ≤ 9223372036854775807) (hN : ∀ i, i < n → (N i).Ok) (hB : mkB s n N = true) (h9 : s.ed ≥ 1000) : CallsP Tryz.prog 22 [(shP s), .one (.lst 7 n (notF N))] (.tup [(shP (MkS s n N)), .one (.g (.int .i64 (MkE s n N)))]) := by
  have h3 := mk_spl hB
  have hv := h3.1
  have hw := h3.2.1
  have hn2 := h3.2.2
  have hle := lakL_le s N n
  have hed := sht_ed hv
  have h91 : (s.ed = 1000) = True := eq_true (by have := sht_ed hv; omega)
  refine CallsP_of Tryz.func22 rfl (by rw [Tryz.ntmps22]; simp) ?_
  simp only [shP, Tryz.ntmps22, zM, PT.tv, argEnv, Nat.zero_add, Nat.reduceAdd]
  repeat' (first
 | ((with_reducible show AW _ _ _ _); first
 | (with_reducible first | refine aS (fun K hK => ?_) | refine aI ?_ | refine aT ?_ | refine aC ?_)
 | (first
 | (with_reducible first | refine aP 0 [0,1] ?_ | refine aP 1 [1,2,4] ?_ | refine aP 2 [1,2,4,6] ?_ | refine aP 3 [1,2,4,6,7] ?_ | refine aP 5 [1,2,4] ?_ | refine aP 6 [4] ?_)))
 | ((first | (with_reducible refine And.intro ?_ ?_) | (with_reducible refine Need.mk ?_)); focus (exact True.intro))
 | (with_reducible refine retK_n ?_)
 | ((with_reducible show condN _ _ _ _ _ _); first
 | ((with_reducible refine condN_t ?_ ?_) <;> (intro hc; (try simp only [zB, zC, reduceCtorEq] at hc); (try (exfalso; omega)))))
 | ((with_reducible show callN _ _ _ _ _ _ _ _ _ _); first
 | (refine callN_q (k := 44) fnok_44 (rsheet_p s hs) ?_ ?_)
 | (refine callN_q (k := 36) fnok_36 (rnts_p n N hn hN) ?_ ?_))
 | ((fail_if_success (with_reducible show AW _ _ _ _)); simp (maxSteps := 2000000) only [go_sem, reduceIte, reduceCtorEq, xA, xL, xD, xE, xM, xS, xB, Tryz.f22, intI, hv, hw, h91])
 | ((with_reducible refine hK _ ?_); clear hK K))
  all_goals ((have e := mk_3 hB h9; rw [e.1, e.2]; (repeat' (first | exact rfl | (with_reducible refine And.intro ?_ ?_))); done))
theorem rmk_t (s : ShtS) (n : Nat) (N : Nat → NotS) (hs : s.Ok) (hn : n ≤ 9223372036854775807) (hN : ∀ i, i < n → (N i).Ok) (hB : mkB s n N = true) (h9 : s.ed < 1000) : CallsP Tryz.prog 22 [(shP s), .one (.lst 7 n (notF N))] (.tup [(shP (MkS s n N)), .one (.g (.int .i64 (MkE s n N)))]) := by
  have h3 := mk_spl hB
  have hv := h3.1
  have hw := h3.2.1
  have hn2 := h3.2.2
  have hle := lakL_le s N n
  have h91 : (s.ed = 1000) = False := eq_false (by omega)
  have hbd := CorS_bd (n := n) (N := N) (k := (lakL s N n).length) (od := (zL (lakL s N n))) hv
  refine CallsP_of Tryz.func22 rfl (by rw [Tryz.ntmps22]; simp) ?_
  simp only [shP, Tryz.ntmps22, zM, PT.tv, argEnv, Nat.zero_add, Nat.reduceAdd]
  repeat' (first
 | ((with_reducible show AW _ _ _ _); first
 | (with_reducible first | refine aS (fun K hK => ?_) | refine aI ?_ | refine aT ?_ | refine aC ?_)
 | (first
 | (with_reducible first | refine aP 0 [0,1] ?_ | refine aP 1 [1,2,4] ?_ | refine aP 2 [1,2,4,6] ?_ | refine aP 3 [1,2,4,6,7] ?_ | refine aP 5 [1,2,4] ?_)
 | ((with_reducible refine aR (c := Code.region 7 _ true) [1,2,4] ?_); (with_reducible refine aD ?_ ?_ ?_ ?_); (focus kernel_rfl); (focus kernel_rfl); (focus kernel_rfl))
 | (with_reducible first | refine aP 8 [4,8,10] ?_ | refine aP 9 [4,10] ?_ | refine aP 10 [4,8] ?_ | refine aP 11 [4,8] ?_)))
 | ((first | (with_reducible refine And.intro ?_ ?_) | (with_reducible refine Need.mk ?_)); focus (exact True.intro))
 | (with_reducible refine retK_n ?_)
 | ((with_reducible show condN _ _ _ _ _ _); first
 | ((with_reducible refine condN_t ?_ ?_) <;> (intro hc; (try simp only [zB, zC, reduceCtorEq] at hc); (try (exfalso; omega)))))
 | ((with_reducible refine And.intro ?_ ?_); focus ((with_reducible show chkR _ _ _ = true); kernel_rfl))
 | ((with_reducible show callN _ _ _ _ _ _ _ _ _ _); first
 | (refine callN_q (k := 44) fnok_44 (rsheet_p s hs) ?_ ?_)
 | (refine callN_q (k := 36) fnok_36 (rnts_p n N hn hN) ?_ ?_))
 | ((with_reducible show callDN _ _ _ _ _ _ _ _ _ _ _ _ _); first
 | (refine callDN_q (k := 60) fnok_60 (rlak_p s n N hs hn hN (by omega)) ?_ ?_)
 | (refine callDN_q (k := 20) fnok_20 (rcor_p s n N (lakL s N n).length (zL (lakL s N n)) hs hn hN (by omega)) ?_ ?_))
 | ((fail_if_success (with_reducible show AW _ _ _ _)); simp (maxSteps := 2000000) only [go_sem, reduceIte, reduceCtorEq, xA, xL, xD, xE, xM, xS, xB, Tryz.f22, intI, hv, hw, h91])
 | ((fail_if_success (with_reducible show AW _ _ _ _)); simp (disch := omega) only [seaWrap, seaDiv, seaMod])
 | ((with_reducible refine hK _ ?_); clear hK K))
  all_goals (first | (have e := mk_t hB h9; rw [e.1, e.2, mkF_0 (by assumption), show CorE s n N (lakL s N n).length (zL (lakL s N n)) = 0 from (by assumption)]; (repeat' (first | exact rfl | (with_reducible refine And.intro ?_ ?_) | (intro i q hi hq; exact IV.eqv_refl _) | (intro i q hi hq; exact rfl))); done) | (have e := mk_t hB h9; rw [e.1, e.2, mkF_e (by assumption)]; (repeat' (first | exact rfl | (with_reducible refine And.intro ?_ ?_))); done))
theorem mk_f (s : ShtS) (n : Nat) (N : Nat → NotS) (hs : s.Ok) (hn : n ≤ 9223372036854775807) (hN : ∀ i, i < n → (N i).Ok) (hB : mkB s n N = false) : CallsP Tryz.prog 21 [(shP s), .one (.lst 7 n (notF N))] (.tup [(shP (MkS s n N)), .one (.g (.int .i64 (MkE s n N)))]) := by
  refine CallsP_of Tryz.func21 rfl (by rw [Tryz.ntmps21]; simp) ?_
  simp only [shP, Tryz.ntmps21, zM, PT.tv, argEnv, Nat.zero_add, Nat.reduceAdd]
  repeat' (first
 | ((with_reducible show AW _ _ _ _); first
 | (with_reducible first | refine aS (fun K hK => ?_) | refine aT ?_ | refine aC ?_ | refine aB ?_)
 | (first
 | (with_reducible first | refine aP 0 [0,1] ?_ | refine aP 1 [1,2,4] ?_ | refine aP 2 [4] ?_)))
 | ((first | (with_reducible refine And.intro ?_ ?_) | (with_reducible refine Need.mk ?_)); focus (first | exact True.intro | (intro _; (with_reducible assumption)) | (simp; done)))
 | (with_reducible refine retK_n ?_)
 | ((with_reducible show condN _ _ _ _ _ _); first
 | ((with_reducible refine condN_t ?_ ?_) <;> (intro hc; (try simp only [zB, zC, reduceCtorEq] at hc); (try (exfalso; contradiction)))))
 | ((with_reducible show callN _ _ _ _ _ _ _ _ _ _); first
 | (refine callN_q (k := 34) fnok_34 (sheet_p s hs) ?_ ?_))
 | ((with_reducible show callGN _ _ _ _ _ _ _ _ _ _); first
 | (refine callGN_q (k := 50) fnok_50 (fun hg => nts_p n N hn hN) ?_ ?_))
 | ((fail_if_success (with_reducible show AW _ _ _ _)); simp (maxSteps := 2000000) only [go_sem, reduceIte, reduceCtorEq, xA, xL, xD, xE, xM, xS, xB, Tryz.f21, intI])
 | ((with_reducible refine hK _ ?_); clear hK K))
  all_goals (first | (have e := mk_bad hB; rw [e.1, e.2]; (repeat' (first | exact rfl | (with_reducible refine And.intro ?_ ?_))); done) | exact (mk_no hB hc).elim)
theorem mk_3p (s : ShtS) (n : Nat) (N : Nat → NotS) (hs : s.Ok) (hn : n ≤ 9223372036854775807) (hN : ∀ i, i < n → (N i).Ok) (hB : mkB s n N = true) (h9 : s.ed ≥ 1000) : CallsP Tryz.prog 21 [(shP s), .one (.lst 7 n (notF N))] (.tup [(shP (MkS s n N)), .one (.g (.int .i64 (MkE s n N)))]) := by
  have h3 := mk_spl hB
  have hv := h3.1
  have hw := h3.2.1
  have hn2 := h3.2.2
  have hle := lakL_le s N n
  have h91 : (1000 ≤ s.ed) = True := eq_true h9
  refine CallsP_of Tryz.func21 rfl (by rw [Tryz.ntmps21]; simp) ?_
  simp only [shP, Tryz.ntmps21, zM, PT.tv, argEnv, Nat.zero_add, Nat.reduceAdd]
  repeat' (first
 | ((with_reducible show AW _ _ _ _); first
 | (with_reducible first | refine aS (fun K hK => ?_) | refine aT ?_ | refine aC ?_ | refine aB ?_)
 | (first
 | (with_reducible first | refine aP 0 [0,1] ?_ | refine aP 1 [1,2,4] ?_ | refine aP 3 [1,2,4] ?_ | refine aP 4 [4] ?_)))
 | ((first | (with_reducible refine And.intro ?_ ?_) | (with_reducible refine Need.mk ?_)); focus (first | exact True.intro | (intro _; exact True.intro)))
 | (with_reducible refine retK_n ?_)
 | ((with_reducible show condN _ _ _ _ _ _); first
 | ((with_reducible refine condN_t ?_ ?_) <;> (intro hc; (try simp only [zB, zC, reduceCtorEq] at hc); (try (exfalso; contradiction)))))
 | ((with_reducible show callN _ _ _ _ _ _ _ _ _ _); first
 | (refine callN_q (k := 34) fnok_34 (sheet_p s hs) ?_ ?_))
 | ((with_reducible show callGN _ _ _ _ _ _ _ _ _ _); first
 | (refine callGN_q (k := 50) fnok_50 (fun hg => nts_p n N hn hN) ?_ ?_))
 | ((fail_if_success (with_reducible show AW _ _ _ _)); simp (maxSteps := 2000000) only [go_sem, reduceIte, reduceCtorEq, xA, xL, xD, xE, xM, xS, xB, Tryz.f21, intI, hv, hw, h91])
 | ((with_reducible refine hK _ ?_); clear hK K))
  all_goals ((have e := mk_3 hB h9; rw [e.1, e.2]; (repeat' (first | exact rfl | (with_reducible refine And.intro ?_ ?_))); done))
set_option maxHeartbeats 16000000 in
theorem mk_w (s : ShtS) (n : Nat) (N : Nat → NotS) (k : Nat) (od : Nat → Int) (hs : s.Ok) (hn : n ≤ 9223372036854775807) (hN : ∀ i, i < n → (N i).Ok) (hk : k ≤ 9223372036854775807) (hB : corB s n N k = true) (h9 : s.ed < 1000) (hL : CallsP Tryz.prog 59 [(shP s), .one (.lst 7 n (notF N))] (.t (.one (.lst 1 k (intI od))))) : CallsP Tryz.prog 21 [(shP s), .one (.lst 7 n (notF N))] (.tup [(shP (mkF (CorS s n N k od) (CorE s n N k od))), .one (.g (.int .i64 (CorE s n N k od)))]) := by
  have hil : True := trivial
  have mk1 : True := trivial
  have hB2 := hB
  unfold corB at hB2
  simp only [Bool.and_eq_true, decide_eq_true_eq] at hB2
  have hv := hB2.1.1
  have hw := hB2.1.2
  have h91 : (1000 ≤ s.ed) = False := eq_false (by omega)
  refine CallsP_of Tryz.func21 rfl (by rw [Tryz.ntmps21]; simp) ?_
  simp only [shP, Tryz.ntmps21, zM, PT.tv, argEnv, Nat.zero_add, Nat.reduceAdd]
  repeat' (first
 | ((with_reducible show AW _ _ _ _); first
 | (with_reducible first | refine aS (fun K hK => ?_) | refine aI ?_ | refine aX ?_ | refine aT ?_ | refine aC ?_ | refine aB ?_)
 | (first
 | ((with_reducible show AW _ (Code.region 17 _ true) _ _); refine AW_ins (m := (corS s n N od i).q) (p := posI (liI (corS s n N od i).q (corS s n N od i).dn) (fndS n N (od i)).nu) (zs := liI (corS s n N od i).q (corS s n N od i).dn) (x := (fndS n N (od i)).nu) 30 31 rfl rfl rfl rfl rfl rfl rfl rfl rfl rfl rfl ⟨rfl, by simp, by decide⟩ rfl rfl (by decide) (by omega) (liI_row _ _) (liI_len _ _) (posI_q _ _ _) rfl rfl rfl rfl (by decide) (by kernel_rfl) (by kernel_rfl) (by kernel_rfl) (by kernel_rfl) (by kernel_rfl) ?_)
 | (with_reducible first | refine aP 0 [0,1,2] ?_ | refine aP (ops := #[⟨some 10, _, _, _, _, _⟩, _, _, _, _, _, _, _, _]) 1 [1,2,4] ?_ | refine aP (ops := #[⟨some 14, _, _, _, _, _⟩, _, _]) 1 [0,1,2] ?_ | refine aP (ops := #[⟨some 5, _, _, _, _, _⟩, _, _, _, _]) 1 [0,1] ?_ | refine aP (ops := #[⟨some 6, _, _, _, _, _⟩, _, _]) 1 [0,1] ?_ | refine aP (ops := #[⟨some 4, _, _, _, _, _⟩, _, _, _, _, _, _]) 1 [0,1] ?_)
 | ((with_reducible refine aR (c := Code.region 1 _ true) [2,3] ?_); (with_reducible refine aD ?_ ?_ ?_ ?_); (focus kernel_rfl); (focus kernel_rfl); (focus kernel_rfl))
 | (with_reducible first | refine aP (ops := #[⟨some 16, _, _, _, _, _⟩, _, _]) 2 [1,2,8] ?_ | refine aP (ops := #[⟨some 9, _, _, _, _, _⟩]) 2 [0,1,7,8] ?_ | refine aP (ops := #[⟨some 23, _, _, _, _, _⟩, _]) 2 [2,3,5,6] ?_ | refine aP (ops := #[⟨some 20, _, _, _, _, _⟩, _, _, _]) 3 [1,2,4] ?_ | refine aP (ops := #[⟨some 19, _, _, _, _, _⟩]) 3 [1,8,16,17,18] ?_ | refine aP (ops := #[⟨some 10, _, _, _, _, _⟩, _]) 3 [0,1,7,8] ?_ | refine aP (ops := #[⟨some 25, _, _, _, _, _⟩, _, _, _]) 3 [2,3,5,6,7] ?_ | refine aP (ops := #[⟨some 20, _, _, _, _, _⟩, _, _, _, _]) 4 [1,8,16,17,18] ?_ | refine aP (ops := #[⟨some 11, _, _, _, _, _⟩, _, _, _, _, _]) 4 [0,1,5,7,8] ?_ | refine aP (ops := #[⟨some 4, _, _, _, _, _⟩]) 4 [] ?_ | refine aP (ops := #[⟨some 24, _, _, _, _, _⟩, _, _, _]) 5 [1,2,4] ?_ | refine aP (ops := #[⟨some 24, _, _, _, _, _⟩, _, _, _, _, _, _, _, _]) 5 [1,8,9,10,16,17,18] ?_ | refine aP (ops := #[⟨some 17, _, _, _, _, _⟩, _]) 5 [5] ?_ | refine aP (ops := #[⟨some 29, _, _, _, _, _⟩, _, _]) 5 [2,3,5,6,7] ?_ | refine aP (ops := #[⟨some 27, _, _, _, _, _⟩, _, _, _, _, _, _, _, _, _]) 6 [1,4,6] ?_ | refine aP (ops := #[⟨some 29, _, _, _, _, _⟩, _]) 6 [1,8,9,11,12,16,17,18] ?_ | refine aP (ops := #[⟨some 18, _, _, _, _, _⟩, _]) 6 [0,1,7,8] ?_ | refine aP (ops := #[⟨some 4, _, _, _, _, _⟩]) 6 [] ?_ | refine aP (ops := #[⟨some 34, _, _, _, _, _⟩, _]) 7 [4,6,8] ?_ | refine aP (ops := #[⟨some 31, _, _, _, _, _⟩, _, _]) 7 [9] ?_ | refine aP (ops := #[⟨some 4, _, _, _, _, _⟩]) 7 [] ?_)
 | ((with_reducible refine aR (c := Code.region 7 _ true) [2,3,5,7] ?_); (with_reducible refine aD ?_ ?_ ?_ ?_); (focus kernel_rfl); (focus kernel_rfl); (focus kernel_rfl))
 | (with_reducible first | refine aP (ops := #[⟨some 36, _, _, _, _, _⟩, _, _, _]) 8 [4,8] ?_ | refine aP (ops := #[⟨some 32, _, _, _, _, _⟩, _, _, _]) 8 [1,8,9,11,16,17,18] ?_ | refine aP (ops := #[⟨some 4, _, _, _, _, _⟩]) 8 [] ?_ | refine aP (ops := #[⟨some 38, _, _, _, _, _⟩, _, _, _, _, _, _]) 9 [4,6] ?_ | refine aP (ops := #[⟨some 35, _, _, _, _, _⟩, _]) 9 [1,8,9,13,16,17,18] ?_ | refine aP (ops := #[⟨some 39, _, _, _, _, _⟩, _, _, _, _]) 9 [2,3,5,7] ?_ | refine aP (ops := #[⟨some 44, _, _, _, _, _⟩, _, _, _]) 10 [4,6] ?_ | refine aP (ops := #[⟨some 37, _, _, _, _, _⟩, _, _, _]) 10 [9,13] ?_ | refine aP (ops := #[⟨some 4, _, _, _, _, _⟩]) 10 [] ?_ | refine aP (ops := #[⟨some 39, _, _, _, _, _⟩, _]) 11 [1,8,16,17,18] ?_ | refine aP (ops := #[⟨some 44, _, _, _, _, _⟩, _, _, _, _, _, _, _]) 11 [2,3,5] ?_ | refine aP (ops := #[⟨some 6, _, _, _, _, _⟩, _]) 12 [] ?_ | refine aP (ops := #[⟨some 4, _, _, _, _, _⟩]) 12 [] ?_)
 | ((with_reducible refine aR (c := Code.region 13 _ true) [2,3,5] ?_); (with_reducible refine aD ?_ ?_ ?_ ?_); (focus kernel_rfl); (focus kernel_rfl); (focus kernel_rfl))
 | (with_reducible first | refine aP 14 [2,3,8,10] ?_ | refine aP 15 [] ?_)
 | ((with_reducible refine aR (c := Code.region 16 _ true) [2,3,8] ?_); (with_reducible refine aD ?_ ?_ ?_ ?_); (focus kernel_rfl); (focus kernel_rfl); (focus kernel_rfl))
 | (with_reducible refine AW_frz (c := Code.region 18 _ false) [30] ?_ (aP 18 [] ?_)))
 | ((with_reducible show AW _ (Code.loop _) _ _); first
 | ((with_reducible refine aL (c := (Code.seq (Code.region 3 _ _) _)) (ι := Nat) [1,8,16,17] (fun i => [(18, iA .i64 (i : Int))]) (fun i => [(2, [.iv (.g (.int .i64 (corS s n N od i).ch)), .iv (.g (.int .i64 (corS s n N od i).sc)), .iv (.g (.int .i64 (corS s n N od i).ed)), .iv (.g (.int .i64 (corS s n N od i).m.A)), .iv (.g (.int .i64 (corS s n N od i).m.B)), .iv (.g (.int .i64 (corS s n N od i).m.C)), .iv (.g (.int .i64 (corS s n N od i).m.D)), .iv (.g (.int .i64 (corS s n N od i).m.E)), .iv (.g (.int .i64 (corS s n N od i).m.F)), .iv (.g (.int .i64 (corS s n N od i).m.R)), .iv (.g (.int .i64 (corS s n N od i).cap)), .iv (.lst 1 (corS s n N od i).q (intI (corS s n N od i).dn)), .iv (.lst 9 (corS s n N od i).n (featF (corS s n N od i).f))])]) (fun i => i ≤ k ∧ (∀ j, j < i → stpE (corS s n N od j) n N (od j) = 0)) (fun i => k - i) 0 ?lg3 ?l13 ?l23 ?li3 ?lr3); (case' lg3 => rintro i _); (case' li3 => try (exact ⟨Nat.zero_le _, fun i hi => absurd hi (Nat.not_lt_zero _)⟩)); (case' lr3 => rintro i ⟨hi, hai⟩ KR hR3; (clear mk1; have hvi := cor_v (N := N) (n := n) (od := od) hv i hai; have hCo := sht_ok hvi; have hsq := sht_q hvi; have hF := fndS_ok hN (od i); have hFn := hF.n; have hP := prtS_ok hF (corS s n N od i).ch; have hPk := hP.k; have hPq := hP.q; have hPo := hP.o; clear hil; have hil := hil_e (corS s n N od i) (fndS n N (od i)).nu); simp only [keepE, hupd, hset, lk, if_true, if_false, xE, reduceIte, zN, hv, hw, h91, hil, insH, insC, Nat.le_refl]))
 | ((with_reducible refine aL (c := (Code.seq (Code.region 2 _ _) _)) (ι := Nat) [0,1,7] (fun j => [(8, iA .i64 (j : Int))]) (fun j => []) (fun j => j ≤ (prtS (fndS n N (od i)) (corS s n N od i).ch).q ∧ (∀ k, k < j → hasL (corS s n N od i).q (corS s n N od i).dn ((prtS (fndS n N (od i)) (corS s n N od i).ch).a k) = true)) (fun j => (prtS (fndS n N (od i)) (corS s n N od i).ch).q - j) 0 ?lg2 ?l12 ?l22 ?li2 ?lr2); (case' lg2 => rintro j _); (case' li2 => try (exact ⟨Nat.zero_le _, fun i hi => absurd hi (Nat.not_lt_zero _)⟩)); (case' lr2 => rintro j ⟨hj, haj⟩ KR hR2; simp only [keepE, hupd, hset, lk, if_true, if_false, xE, reduceIte, zN, hv, hw, h91, hil, insH, insC, Nat.le_refl]))))
 | ((first | (with_reducible refine And.intro ?_ ?_) | (with_reducible refine Need.mk ?_)); focus (first | exact rowI_iv _ | first | exact True.intro | omega | (intro _; exact True.intro)))
 | (with_reducible refine retK_n ?_)
 | ((with_reducible show condN _ _ _ _ _ _); first
 | ((with_reducible refine condN_t ?_ ?_) <;> (intro hc; (try simp only [zB, zC, reduceCtorEq] at hc); ((try (have hbd := corS_bd (n := n) (N := N) (od := od) hv k)); (try (have e0 : k = i := (by omega); have hbd := corS_bd (n := n) (N := N) (od := od) hv i))); (try (exfalso; contradiction)))))
 | ((with_reducible refine And.intro ?_ ?_); focus ((with_reducible show chkR _ _ _ = true); kernel_rfl))
 | ((with_reducible show callN _ _ _ _ _ _ _ _ _ _); first
 | (refine callN_q (k := 34) fnok_34 (sheet_p s hs) ?_ ?_)
 | (refine callN_q (k := 64) fnok_64 (fnd_p n N hn hN (od i) hw) ?_ ?_)
 | (refine callN_q (k := 63) fnok_63 (has_p (corS s n N od i) _ (sht_ok hvi) hvi) ?_ ?_)
 | (refine callN_q (k := 59) fnok_59 (hL) ?_ ?_)
 | ((refine callN_i (k := 57) Tryz.func57 rfl fnok_57 (by rw [Tryz.ntmps57]; simp) ?_ ?_ (fun K hK => ?_)); (focus (exact True.intro)); (focus ((simp [lsF]; done))); simp only [Tryz.ntmps57, List.map_cons, List.map_nil, List.nil_append, List.cons_append, List.append_nil, LV.tv, argEnv, Nat.zero_add, Nat.reduceAdd])
 | ((refine callN_i (k := 61) Tryz.func61 rfl fnok_61 (by rw [Tryz.ntmps61]; simp) ?_ ?_ (fun K hK => ?_)); (focus (exact True.intro)); (focus ((simp [lsF]; done))); simp only [Tryz.ntmps61, List.map_cons, List.map_nil, List.nil_append, List.cons_append, List.append_nil, LV.tv, argEnv, Nat.zero_add, Nat.reduceAdd])
 | ((refine callN_i (k := 95) Tryz.func95 rfl fnok_95 (by rw [Tryz.ntmps95]; simp) ?_ ?_ (fun K hK => ?_)); (focus (exact True.intro)); (focus ((simp [lsF]; done))); simp only [Tryz.ntmps95, List.map_cons, List.map_nil, List.nil_append, List.cons_append, List.append_nil, LV.tv, argEnv, Nat.zero_add, Nat.reduceAdd])
 | ((refine callN_ic (k := 43) Tryz.func43 rfl fnok_43 (by rw [Tryz.ntmps43]; simp) ?_ ?_ (fun K hK => ?_)); (focus (exact True.intro)); (focus ((simp [lsF]; done))); simp only [Tryz.ntmps43, List.map_cons, List.map_nil, List.nil_append, List.cons_append, List.append_nil, LV.tv, argEnv, Nat.zero_add, Nat.reduceAdd])
 | ((refine callN_ic (k := 82) Tryz.func82 rfl fnok_82 (by rw [Tryz.ntmps82]; simp) ?_ ?_ (fun K hK => ?_)); (focus (exact True.intro)); (focus ((simp [lsF]; done))); simp only [Tryz.ntmps82, List.map_cons, List.map_nil, List.nil_append, List.cons_append, List.append_nil, LV.tv, argEnv, Nat.zero_add, Nat.reduceAdd]))
 | ((with_reducible show callGN _ _ _ _ _ _ _ _ _ _); first
 | (refine callGN_q (k := 50) fnok_50 (fun hg => nts_p n N hn hN) ?_ ?_))
 | ((with_reducible show callDN _ _ _ _ _ _ _ _ _ _ _ _ _); first
 | (refine callDN_q (k := 65) fnok_65 (prtF_p (fndS n N (od i)) (corS s n N od i).ch hF) ?_ ?_)
 | (refine callDN_q (k := 63) fnok_63 (has_p (corS s n N od i) _ (sht_ok hvi) hvi) ?_ ?_)
 | (refine callDN_q (k := 32) fnok_32 (Apply_p (corS s n N od i).n (corS s n N od i).f (prtS (fndS n N (od i)) (corS s n N od i).ch).k (prtS (fndS n N (od i)) (corS s n N od i).ch).o hCo.n hCo.f hPk hPo) ?_ ?_)
 | (refine callDN_q (k := 83) fnok_83 (bs_p (corS s n N od i).q (corS s n N od i).dn _ (by omega) (fun i j h1 h2 => rise_all hsq.2.2 j h1 h2)) ?_ ?_))
 | ((with_reducible refine hR3 _ (i + 1) ?_); (try clear hR3 KR))
 | ((with_reducible refine hR2 _ (j + 1) ?_); (try clear hR2 KR))
 | ((with_reducible refine Told.mk ?_); simp only [go_sem, reduceIte, reduceCtorEq, xA, xL, xD, xE, xM, xS, xB, intI, hv, hw, h91, hil, insH, insC, Nat.le_refl] <;> ((((try simp (disch := omega) only [seaWrap, Int.natCast_add, Int.cast_ofNat_Int, and_true, true_and, and_self]); (repeat' (first | omega | rfl | (with_reducible refine And.intro ?_ ?_) | (exact all_succ (by assumption) (by assumption)) | ((exact Or.inl rfl)) | ((exact all_succ (by assumption) ((stp_b (by assumption)).trans ((Ap_val hvi (fndS_v hw (by assumption))).trans ((ed_ap (by assumption) (by assumption)).trans (ap_0s (by assumption) (by assumption) (mss_fs (by assumption) (by assumption) haj) (by assumption) (by assumption))))))) | ((rw [cor_step rfl (by assumption) (by assumption)])) | ((exact Or.inr ⟨rfl, fun i o hi ho => rowI_dn2 (by omega) ho⟩)))); done))))
 | ((fail_if_success (with_reducible show AW _ _ _ _)); simp (maxSteps := 2000000) only [go_sem, reduceIte, reduceCtorEq, xA, xL, xD, xE, xM, xS, xB, Tryz.f21, Tryz.f57, Tryz.f61, Tryz.f95, Tryz.f43, Tryz.f82, intI, hv, hw, h91, hil, insH, insC, Nat.le_refl])
 | ((fail_if_success (with_reducible show AW _ _ _ _)); simp (disch := omega) only [seaWrap, seaDiv, seaMod])
 | ((with_reducible refine hK _ ?_); clear hK K)
 | (with_reducible apply_assumption -exfalso only [*]))
  all_goals (first | (have e := cor_err hB (by assumption) hai ((stp_b (by assumption)).trans ((Ap_val hvi (fndS_v hw (by assumption))).trans (ed_12 (by assumption)))) (by decide); rw [mkF_e (by rw [e.2.2]; decide), e.2.2]; (repeat' (first | exact rfl | (with_reducible refine And.intro ?_ ?_))); done) | (have e := cor_err hB (by assumption) hai ((stp_b (by assumption)).trans ((Ap_val hvi (fndS_v hw (by assumption))).trans (ed_4 (by assumption) (by assumption)))) (by decide); rw [mkF_e (by rw [e.2.2]; decide), e.2.2]; (repeat' (first | exact rfl | (with_reducible refine And.intro ?_ ?_))); done) | (have e := cor_err hB (by assumption) hai ((stp_b (by assumption)).trans ((Ap_val hvi (fndS_v hw (by assumption))).trans ((ed_ap (by assumption) (by assumption)).trans (ap_5 (by assumption))))) (by decide); rw [mkF_e (by rw [e.2.2]; decide), e.2.2]; (repeat' (first | exact rfl | (with_reducible refine And.intro ?_ ?_))); done) | (have e := cor_err hB (by assumption) hai ((stp_b (by assumption)).trans ((Ap_val hvi (fndS_v hw (by assumption))).trans ((ed_ap (by assumption) (by assumption)).trans (ap_16s (by assumption) (by assumption) (by assumption) (by assumption))))) (by decide); rw [mkF_e (by rw [e.2.2]; decide), e.2.2]; (repeat' (first | exact rfl | (with_reducible refine And.intro ?_ ?_))); done) | (have e := cor_err hB (by assumption) hai ((stp_b (by assumption)).trans ((Ap_val hvi (fndS_v hw (by assumption))).trans ((ed_ap (by assumption) (by assumption)).trans (ap_2 (by assumption) (mss_fs (by assumption) (by assumption) haj) (by assumption))))) (by decide); rw [mkF_e (by rw [e.2.2]; decide), e.2.2]; (repeat' (first | exact rfl | (with_reducible refine And.intro ?_ ?_))); done) | (have e := cor_err hB (by assumption) hai ((stp_b (by assumption)).trans ((Ap_val hvi (fndS_v hw (by assumption))).trans ((ed_ap (by assumption) (by assumption)).trans (ap_15s (by assumption) (by assumption) (mss_fs (by assumption) (by assumption) haj) (by assumption) (by assumption))))) (by decide); rw [mkF_e (by rw [e.2.2]; decide), e.2.2]; (repeat' (first | exact rfl | (with_reducible refine And.intro ?_ ?_))); done) | (have e := cor_err hB (by assumption) hai (stp_n (by assumption)) (by decide); rw [mkF_e (by rw [e.2.2]; decide), e.2.2]; (repeat' (first | exact rfl | (with_reducible refine And.intro ?_ ?_))); done) | (have e := cor_ok hB (by assumption) hai; have e0 : k = i := (by omega); subst e0; rw [mkF_0 e.2.2, e.1, e.2.2]; (repeat' (first | exact rfl | (with_reducible refine And.intro ?_ ?_) | (intro i q hi hq; exact IV.eqv_refl _) | (intro i q hi hq; exact rfl))); done))
theorem mk_tp (s : ShtS) (n : Nat) (N : Nat → NotS) (hs : s.Ok) (hn : n ≤ 9223372036854775807) (hN : ∀ i, i < n → (N i).Ok) (hB : mkB s n N = true) (h9 : s.ed < 1000) : CallsP Tryz.prog 21 [(shP s), .one (.lst 7 n (notF N))] (.tup [(shP (MkS s n N)), .one (.g (.int .i64 (MkE s n N)))]) := by
  have h3 := mk_spl hB
  have hle := lakL_le s N n
  have e := mk_t hB h9
  rw [e.1, e.2]
  exact mk_w s n N (lakL s N n).length (zL (lakL s N n)) hs hn hN (by omega) (mk_cor hB) h9 (lak_p s n N hs hn hN h3.1 (by omega))
theorem rmk_p (s : ShtS) (n : Nat) (N : Nat → NotS) (hs : s.Ok) (hn : n ≤ 9223372036854775807) (hN : ∀ i, i < n → (N i).Ok) : CallsP Tryz.prog 22 [(shP s), .one (.lst 7 n (notF N))] (.tup [(shP (MkS s n N)), .one (.g (.int .i64 (MkE s n N)))]) := by
  cases hB : mkB s n N with
  | false => exact rmk_f s n N hs hn hN hB
  | true =>
    by_cases h9 : s.ed ≥ 1000
    · exact rmk_3 s n N hs hn hN hB h9
    · exact rmk_t s n N hs hn hN hB (by omega)
theorem mk_p (s : ShtS) (n : Nat) (N : Nat → NotS) (hs : s.Ok) (hn : n ≤ 9223372036854775807) (hN : ∀ i, i < n → (N i).Ok) : CallsP Tryz.prog 21 [(shP s), .one (.lst 7 n (notF N))] (.tup [(shP (MkS s n N)), .one (.g (.int .i64 (MkE s n N)))]) := by
  cases hB : mkB s n N with
  | false => exact mk_f s n N hs hn hN hB
  | true =>
    by_cases h9 : s.ed ≥ 1000
    · exact mk_3p s n N hs hn hN hB h9
    · exact mk_tp s n N hs hn hN hB (by omega)
end Go.Proofs.YtdhgiklbkmkblaaGreat
set_option maxRecDepth 100000
set_option maxHeartbeats 4000000
namespace Go.Proofs.YtdhgiklbkmkblaaGreat
open Go.RowKit Go.Sea
open Nat renaming reduceAdd → xA, reduceLT → xL, reduceLeDiff → xD, reduceEqDiff → xE, reduceMul → xM, reduceSub → xS, reduceBEq → xB
theorem ar_101 : arD Tryz.prog 101 = none := by kernel_rfl
theorem fnok_101 : fnOk Tryz.prog 101 = true := by kernel_rfl
theorem fnok_102 : fnOk Tryz.prog 102 = true := by kernel_rfl
theorem fnok_103 : fnOk Tryz.prog 103 = true := by kernel_rfl
theorem fnok_104 : fnOk Tryz.prog 104 = true := by kernel_rfl
theorem fnok_105 : fnOk Tryz.prog 105 = true := by kernel_rfl
theorem fnok_106 : fnOk Tryz.prog 106 = true := by kernel_rfl
theorem fnok_17 : fnOk Tryz.prog 17 = true := by kernel_rfl
theorem fnok_66 : fnOk Tryz.prog 66 = true := by kernel_rfl
theorem fo_104 : fieldsOk Tryz.prog 104 = true := by kernel_rfl
theorem le_101 : lenD Tryz.prog 101 = some true := by kernel_rfl
theorem of_104_0 : offOf Tryz.prog 104 0 = some 0 := by kernel_rfl
theorem pl_104_0 : placeF Tryz.prog 104 0 = some (0, 1) := by kernel_rfl
theorem sl_101 : slD Tryz.prog 101 = some (1, 8, 104) := by kernel_rfl
theorem ty_104 : tyD Tryz.prog 104 = some (true, 1) := by kernel_rfl
theorem ty_37 : tyD Tryz.prog 37 = some (false, 1) := by kernel_rfl
theorem zc_104 : zeroC Tryz.prog 104 = some [.iv (.g (.nilFunc))] := by kernel_rfl
attribute [go_sem] ar_101 fnok_17 fnok_66 fo_104 le_101 of_104_0 pl_104_0 sl_101 ty_104 ty_37 zc_104
def datE (a b : ShtS) : Bool := decide (a.m.A = b.m.A ∧ a.m.B = b.m.B ∧ a.m.C = b.m.C ∧ a.m.D = b.m.D ∧ a.m.E = b.m.E ∧ a.m.F = b.m.F ∧ a.m.R = b.m.R)
def cpB (a b : ShtS) : Nat → Bool
  | 0 => decide (a.ch = b.ch)
  | 1 => decide (a.sc = b.sc)
  | 2 => datE a b
  | 3 => decide (a.cap = b.cap)
  | 4 => eqLI a.q b.q a.dn b.dn
  | _ => eqFI a.n b.n a.f b.f
def cpJ (a b : ShtS) : Nat := fstB (fun i => !cpB a b i) 6
def CpB (a b : ShtS) : Bool := shtB a && shtB b
def CpV (a b : ShtS) : Int := if CpB a b = true then (if cpJ a b < 6 then (cpJ a b : Int) + 1 else 0) else 0
def CpE (a b : ShtS) : Int := if CpB a b = true then 0 else 1
theorem cp_bad {a b : ShtS} (h : CpB a b = false) : CpV a b = 0 ∧ CpE a b = 1 := by unfold CpV CpE; rw [h]; exact ⟨rfl, rfl⟩
theorem cp_hit {a b : ShtS} (h : CpB a b = true) {i : Nat} (hi : i < 6) (h2 : cpB a b i = false) (g : ∀ j, j < i → cpB a b j = true) : CpV a b = (i : Int) + 1 ∧ CpE a b = 0 := by
  have e : cpJ a b = i := fstB_h (b := fun i => !cpB a b i) (by simp [h2]) (fun j hj => by simp [g j hj]) 6 hi
  unfold CpV CpE; rw [if_pos h, if_pos h, e, if_pos hi]; exact ⟨rfl, rfl⟩
theorem cp_0 {a b : ShtS} (h : CpB a b = true) (g : ∀ j, j < 6 → cpB a b j = true) : CpV a b = 0 ∧ CpE a b = 0 := by
  have e : cpJ a b = 6 := fstB_t 6 fun j hj => by simp [g j hj]
  unfold CpV CpE; rw [if_pos h, if_pos h, e, if_neg (by omega)]; exact ⟨rfl, rfl⟩
theorem cp_no {a b : ShtS} (h : CpB a b = false) (hc : shtB a = true ∧ shtB b = true) : False := by unfold CpB at h; rw [hc.1, hc.2] at h; cases h
theorem cp_spl {a b : ShtS} (h : CpB a b = true) : shtB a = true ∧ shtB b = true := by unfold CpB at h; simpa using h
theorem alP6 {p : Nat → Prop} (h0 : p 0) (h1 : p 1) (h2 : p 2) (h3 : p 3) (h4 : p 4) (h5 : p 5) {i : Nat} (hi : i ≤ 6) : ∀ j, j < i → p j := fun j hj => by
  rcases (by omega : j = 0 ∨ j = 1 ∨ j = 2 ∨ j = 3 ∨ j = 4 ∨ j = 5) with rfl | rfl | rfl | rfl | rfl | rfl <;> assumption
theorem alP5 {p : Nat → Prop} (h0 : p 0) (h1 : p 1) (h2 : p 2) (h3 : p 3) (h4 : p 4) : ∀ j, j < 5 → p j := fun j hj => by
  rcases (by omega : j = 0 ∨ j = 1 ∨ j = 2 ∨ j = 3 ∨ j = 4) with rfl | rfl | rfl | rfl | rfl <;> assumption
theorem alP4 {p : Nat → Prop} (h0 : p 0) (h1 : p 1) (h2 : p 2) (h3 : p 3) : ∀ j, j < 4 → p j := fun j hj => by
  rcases (by omega : j = 0 ∨ j = 1 ∨ j = 2 ∨ j = 3) with rfl | rfl | rfl | rfl <;> assumption
theorem alP3 {p : Nat → Prop} (h0 : p 0) (h1 : p 1) (h2 : p 2) : ∀ j, j < 3 → p j := fun j hj => by
  rcases (by omega : j = 0 ∨ j = 1 ∨ j = 2) with rfl | rfl | rfl <;> assumption
theorem alP2 {p : Nat → Prop} (h0 : p 0) (h1 : p 1) : ∀ j, j < 2 → p j := fun j hj => by
  rcases (by omega : j = 0 ∨ j = 1) with rfl | rfl <;> assumption
theorem alP1 {p : Nat → Prop} (h0 : p 0) : ∀ j, j < 1 → p j := fun j hj => by
  obtain rfl : j = 0 := by omega
  assumption
theorem alP0 {p : Nat → Prop} : ∀ j, j < 0 → p j := fun j hj => absurd hj (Nat.not_lt_zero _)
theorem cpb0 {a b : ShtS} (h : a.ch = b.ch) : cpB a b 0 = true := decide_eq_true h
theorem cpb0f {a b : ShtS} (h : a.ch ≠ b.ch) : cpB a b 0 = false := decide_eq_false h
theorem cpb1 {a b : ShtS} (h : a.sc = b.sc) : cpB a b 1 = true := decide_eq_true h
theorem cpb1f {a b : ShtS} (h : a.sc ≠ b.sc) : cpB a b 1 = false := decide_eq_false h
theorem cpb2 {a b : ShtS} (h : a.m.A = b.m.A ∧ a.m.B = b.m.B ∧ a.m.C = b.m.C ∧ a.m.D = b.m.D ∧ a.m.E = b.m.E ∧ a.m.F = b.m.F ∧ a.m.R = b.m.R) : cpB a b 2 = true := decide_eq_true h
theorem cpb2f {a b : ShtS} (h : ¬a.m.A = b.m.A ∨ ¬a.m.B = b.m.B ∨ ¬a.m.C = b.m.C ∨ ¬a.m.D = b.m.D ∨ ¬a.m.E = b.m.E ∨ ¬a.m.F = b.m.F ∨ ¬a.m.R = b.m.R) : cpB a b 2 = false := decide_eq_false fun g => by omega
theorem cpb3 {a b : ShtS} (h : a.cap = b.cap) : cpB a b 3 = true := decide_eq_true h
theorem cpb3f {a b : ShtS} (h : a.cap ≠ b.cap) : cpB a b 3 = false := decide_eq_false h
theorem cpb4 {a b : ShtS} (h : eqLI a.q b.q a.dn b.dn = true) : cpB a b 4 = true := h
theorem cpb4f {a b : ShtS} (h : eqLI a.q b.q a.dn b.dn = false) : cpB a b 4 = false := h
theorem cpb5 {a b : ShtS} (h : eqFI a.n b.n a.f b.f = true) : cpB a b 5 = true := h
theorem cpb5f {a b : ShtS} (h : eqFI a.n b.n a.f b.f = false) : cpB a b 5 = false := h
theorem datE_t {a b : ShtS} (h : datE a b = true) : cpB a b 2 = true := h
theorem datE_f {a b : ShtS} (h : datE a b = false) : cpB a b 2 = false := h
theorem stepA {p : Nat → Prop} {i q m : Nat} (h : ∀ j, j < i → p j) (hi : i = q) (hq : p q) (hm : m = q + 1) : ∀ j, j < m → p j := fun j hj => by
  by_cases e : j = q
  · subst e; exact hq
  · exact h j (by omega)
def thgF (i o : Nat) : IV := .g (.func (.func (101 + i)) #[] #[])
theorem thgF_0 (o : Nat) : thgF 0 o = .g (.func (.func 101) #[] #[]) := rfl
theorem thgF_1 (o : Nat) : thgF 1 o = .g (.func (.func 102) #[] #[]) := rfl
theorem thgF_2 (o : Nat) : thgF 2 o = .g (.func (.func 103) #[] #[]) := rfl
theorem thgF_3 (o : Nat) : thgF 3 o = .g (.func (.func 104) #[] #[]) := rfl
theorem thgF_4 (o : Nat) : thgF 4 o = .g (.func (.func 105) #[] #[]) := rfl
theorem thgF_5 (o : Nat) : thgF 5 o = .g (.func (.func 106) #[] #[]) := rfl
theorem thg0_p (a b : ShtS) (ha : a.Ok) (hb : b.Ok) : CallsP Tryz.prog 101 [(shP a), (shP b)] (.t (.one (.g (.bool (decide (a.ch = b.ch)))))) := by
  refine CallsP_of Tryz.func101 rfl (by rw [Tryz.ntmps101]; simp) ?_
  simp only [shP, Tryz.ntmps101, zM, PT.tv, argEnv, Nat.zero_add, Nat.reduceAdd]
  repeat' (first
 | ((with_reducible show AW _ _ _ _); first
 | (with_reducible first | refine aS (fun K hK => ?_) | refine aT ?_)
 | (first
 | (with_reducible first | refine aP 0 [0,1] ?_ | refine aP 1 [2,3] ?_)))
 | (with_reducible refine retK_n ?_)
 | ((fail_if_success (with_reducible show AW _ _ _ _)); simp (maxSteps := 2000000) only [go_sem, reduceIte, reduceCtorEq, xA, xL, xD, xE, xM, xS, xB, Tryz.f101, Go.Sea.cmpS])
 | ((with_reducible refine hK _ ?_); clear hK K))
  all_goals (rfl)
theorem thg1_p (a b : ShtS) (ha : a.Ok) (hb : b.Ok) : CallsP Tryz.prog 102 [(shP a), (shP b)] (.t (.one (.g (.bool (decide (a.sc = b.sc)))))) := by
  refine CallsP_of Tryz.func102 rfl (by rw [Tryz.ntmps102]; simp) ?_
  simp only [shP, Tryz.ntmps102, zM, PT.tv, argEnv, Nat.zero_add, Nat.reduceAdd]
  repeat' (first
 | ((with_reducible show AW _ _ _ _); first
 | (with_reducible first | refine aS (fun K hK => ?_) | refine aT ?_)
 | (first
 | (with_reducible first | refine aP 0 [0,1] ?_ | refine aP 1 [2,3] ?_)))
 | (with_reducible refine retK_n ?_)
 | ((fail_if_success (with_reducible show AW _ _ _ _)); simp (maxSteps := 2000000) only [go_sem, reduceIte, reduceCtorEq, xA, xL, xD, xE, xM, xS, xB, Tryz.f102, Go.Sea.cmpS])
 | ((with_reducible refine hK _ ?_); clear hK K))
  all_goals (rfl)
theorem thg2_p (a b : ShtS) (ha : a.Ok) (hb : b.Ok) : CallsP Tryz.prog 103 [(shP a), (shP b)] (.t (.one (.g (.bool (datE a b))))) := by
  refine CallsP_of Tryz.func103 rfl (by rw [Tryz.ntmps103]; simp) ?_
  simp only [shP, Tryz.ntmps103, zM, PT.tv, argEnv, Nat.zero_add, Nat.reduceAdd]
  repeat' (first
 | ((with_reducible show AW _ _ _ _); first
 | (with_reducible first | refine aS (fun K hK => ?_) | refine aT ?_)
 | (first
 | (with_reducible first | refine aP 0 [0,1] ?_ | refine aP 1 [2,3] ?_)))
 | (with_reducible refine retK_n ?_)
 | ((fail_if_success (with_reducible show AW _ _ _ _)); simp (maxSteps := 2000000) only [go_sem, reduceIte, reduceCtorEq, xA, xL, xD, xE, xM, xS, xB, Tryz.f103, Go.Sea.cmpS])
 | ((with_reducible refine hK _ ?_); clear hK K))
  all_goals ((refine Bool.eq_iff_iff.2 ?_; unfold datE; simp only [Bool.and_eq_true, decide_eq_true_eq, beq_iff_eq, and_assoc]; done))
theorem thg3_p (a b : ShtS) (ha : a.Ok) (hb : b.Ok) : CallsP Tryz.prog 104 [(shP a), (shP b)] (.t (.one (.g (.bool (decide (a.cap = b.cap)))))) := by
  refine CallsP_of Tryz.func104 rfl (by rw [Tryz.ntmps104]; simp) ?_
  simp only [shP, Tryz.ntmps104, zM, PT.tv, argEnv, Nat.zero_add, Nat.reduceAdd]
  repeat' (first
 | ((with_reducible show AW _ _ _ _); first
 | (with_reducible first | refine aS (fun K hK => ?_) | refine aT ?_)
 | (first
 | (with_reducible first | refine aP 0 [0,1] ?_ | refine aP 1 [2,3] ?_)))
 | (with_reducible refine retK_n ?_)
 | ((fail_if_success (with_reducible show AW _ _ _ _)); simp (maxSteps := 2000000) only [go_sem, reduceIte, reduceCtorEq, xA, xL, xD, xE, xM, xS, xB, Tryz.f104, Go.Sea.cmpS])
 | ((with_reducible refine hK _ ?_); clear hK K))
  all_goals (rfl)
theorem thg4_p (a b : ShtS) (ha : a.Ok) (hb : b.Ok) : CallsP Tryz.prog 105 [(shP a), (shP b)] (.t (.one (.g (.bool (eqLI a.q b.q a.dn b.dn))))) := by
  refine CallsP_of Tryz.func105 rfl (by rw [Tryz.ntmps105]; simp) ?_
  simp only [shP, Tryz.ntmps105, zM, PT.tv, argEnv, Nat.zero_add, Nat.reduceAdd]
  repeat' (first
 | ((with_reducible show AW _ _ _ _); first
 | (with_reducible first | refine aS (fun K hK => ?_) | refine aT ?_)
 | (first
 | (with_reducible first | refine aP 0 [0,1] ?_ | refine aP 1 [2,3] ?_)))
 | (((with_reducible refine Need.mk ?_)); focus (exact True.intro))
 | (with_reducible refine retK_n ?_)
 | ((with_reducible show callN _ _ _ _ _ _ _ _ _ _); first
 | (refine callN_q (k := 72) fnok_72 (eqI_p _ _ _ _ ha.q hb.q) ?_ ?_))
 | ((fail_if_success (with_reducible show AW _ _ _ _)); simp (maxSteps := 2000000) only [go_sem, reduceIte, reduceCtorEq, xA, xL, xD, xE, xM, xS, xB, Tryz.f105, Go.Sea.cmpS])
 | ((with_reducible refine hK _ ?_); clear hK K))
  all_goals ((refine Bool.eq_iff_iff.2 ?_; unfold datE; simp only [Bool.and_eq_true, decide_eq_true_eq, beq_iff_eq, and_assoc]; done))
theorem thg5_p (a b : ShtS) (ha : a.Ok) (hb : b.Ok) : CallsP Tryz.prog 106 [(shP a), (shP b)] (.t (.one (.g (.bool (eqFI a.n b.n a.f b.f))))) := by
  refine CallsP_of Tryz.func106 rfl (by rw [Tryz.ntmps106]; simp) ?_
  simp only [shP, Tryz.ntmps106, zM, PT.tv, argEnv, Nat.zero_add, Nat.reduceAdd]
  repeat' (first
 | ((with_reducible show AW _ _ _ _); first
 | (with_reducible first | refine aS (fun K hK => ?_) | refine aT ?_)
 | (first
 | (with_reducible first | refine aP 0 [0,1] ?_ | refine aP 1 [2,3] ?_)))
 | (((with_reducible refine Need.mk ?_)); focus (exact True.intro))
 | (with_reducible refine retK_n ?_)
 | ((with_reducible show callN _ _ _ _ _ _ _ _ _ _); first
 | (refine callN_q (k := 73) fnok_73 (eqf_p _ _ _ _ ha.n hb.n ha.f hb.f) ?_ ?_))
 | ((fail_if_success (with_reducible show AW _ _ _ _)); simp (maxSteps := 2000000) only [go_sem, reduceIte, reduceCtorEq, xA, xL, xD, xE, xM, xS, xB, Tryz.f106, Go.Sea.cmpS])
 | ((with_reducible refine hK _ ?_); clear hK K))
  all_goals ((refine Bool.eq_iff_iff.2 ?_; unfold datE; simp only [Bool.and_eq_true, decide_eq_true_eq, beq_iff_eq, and_assoc]; done))
theorem thg_p  : CallsP Tryz.prog 66 [] (.t (.one (.lst 1 6 thgF))) := by
  refine CallsP_of Tryz.func66 rfl (by rw [Tryz.ntmps66]; simp) ?_
  simp only [Tryz.ntmps66, zM, PT.tv, argEnv, Nat.zero_add, Nat.reduceAdd]
  repeat' (first
 | ((with_reducible show AW _ _ _ _); first
 | (with_reducible first | refine aS (fun K hK => ?_) | refine aT ?_)
 | (first
 | (with_reducible first | refine aP 0 [] ?_ | refine aP 1 [] ?_)))
 | (with_reducible refine retK_n ?_)
 | ((fail_if_success (with_reducible show AW _ _ _ _)); simp (maxSteps := 2000000) only [go_sem, reduceIte, reduceCtorEq, xA, xL, xD, xE, xM, xS, xB, Tryz.f66])
 | ((with_reducible refine hK _ ?_); clear hK K))
  all_goals ((intro i o hi ho; obtain rfl : o = 0 := (by omega); rcases (by omega : i = 0 ∨ i = 1 ∨ i = 2 ∨ i = 3 ∨ i = 4 ∨ i = 5) with rfl | rfl | rfl | rfl | rfl | rfl <;> exact IV.eqv_refl _))
theorem rcp_f (a b : ShtS) (ha : a.Ok) (hb : b.Ok) (hB : CpB a b = false) : CallsP Tryz.prog 30 [(shP a), (shP b)] (.tup [.one (.g (.int .i64 (CpV a b))), .one (.g (.int .i64 (CpE a b)))]) := by
  refine CallsP_of Tryz.func30 rfl (by rw [Tryz.ntmps30]; simp) ?_
  simp only [shP, Tryz.ntmps30, zM, PT.tv, argEnv, Nat.zero_add, Nat.reduceAdd]
  repeat' (first
 | ((with_reducible show AW _ _ _ _); first
 | (with_reducible first | refine aS (fun K hK => ?_) | refine aI ?_ | refine aT ?_ | refine aC ?_)
 | (first
 | (with_reducible first | refine aP 0 [0,1] ?_ | refine aP 1 [2,3] ?_ | refine aP 2 [2,3,6] ?_ | refine aP 3 [2,3,6,7] ?_ | refine aP 4 [] ?_)))
 | ((first | (with_reducible refine And.intro ?_ ?_) | (with_reducible refine Need.mk ?_)); focus (first | exact True.intro | (simp; done)))
 | (with_reducible refine retK_n ?_)
 | ((with_reducible show condN _ _ _ _ _ _); first
 | ((with_reducible refine condN_t ?_ ?_) <;> (intro hc; (try simp only [zB, zC, reduceCtorEq] at hc); (try (exfalso; contradiction)))))
 | ((with_reducible show callN _ _ _ _ _ _ _ _ _ _); first
 | (refine callN_q (k := 44) fnok_44 (rsheet_p a ha) ?_ ?_)
 | (refine callN_q (k := 44) fnok_44 (rsheet_p b hb) ?_ ?_))
 | ((fail_if_success (with_reducible show AW _ _ _ _)); simp (maxSteps := 2000000) only [go_sem, reduceIte, reduceCtorEq, xA, xL, xD, xE, xM, xS, xB, Tryz.f30, Go.Sea.cmpS])
 | ((with_reducible refine hK _ ?_); clear hK K))
  all_goals (first | (have e := cp_bad hB; rw [e.1, e.2]; (repeat' (first | exact rfl | (with_reducible refine And.intro ?_ ?_))); done) | exact (cp_no hB hc).elim)
theorem rcp_t (a b : ShtS) (ha : a.Ok) (hb : b.Ok) (hB : CpB a b = true) : CallsP Tryz.prog 30 [(shP a), (shP b)] (.tup [.one (.g (.int .i64 (CpV a b))), .one (.g (.int .i64 (CpE a b)))]) := by
  have hva := (cp_spl hB).1
  have hvb := (cp_spl hB).2
  refine CallsP_of Tryz.func30 rfl (by rw [Tryz.ntmps30]; simp) ?_
  simp only [shP, Tryz.ntmps30, zM, PT.tv, argEnv, Nat.zero_add, Nat.reduceAdd]
  repeat' (first
 | ((with_reducible show AW _ _ _ _); first
 | (with_reducible first | refine aS (fun K hK => ?_) | refine aI ?_ | refine aT ?_ | refine aC ?_)
 | (first
 | (with_reducible first | refine aP 0 [0,1] ?_ | refine aP 1 [2,3] ?_ | refine aP 2 [2,3,6] ?_ | refine aP 3 [2,3,6,7] ?_ | refine aP 5 [2,3] ?_ | refine aP 6 [] ?_ | refine aP 7 [2,3] ?_ | refine aP 8 [] ?_ | refine aP 9 [2,3] ?_ | refine aP 10 [] ?_ | refine aP 11 [2,3] ?_ | refine aP 12 [] ?_ | refine aP 13 [2,3] ?_ | refine aP 14 [2,3,8] ?_ | refine aP 15 [] ?_ | refine aP 16 [2,3] ?_ | refine aP 17 [9] ?_ | refine aP 18 [] ?_ | refine aP 19 [] ?_)))
 | ((first | (with_reducible refine And.intro ?_ ?_) | (with_reducible refine Need.mk ?_)); focus (exact True.intro))
 | (with_reducible refine retK_n ?_)
 | ((with_reducible show condN _ _ _ _ _ _); first
 | ((with_reducible refine condN_t ?_ ?_) <;> (intro hc; (try simp only [zB, zC, reduceCtorEq] at hc); (try (exfalso; contradiction)))))
 | ((with_reducible show callN _ _ _ _ _ _ _ _ _ _); first
 | (refine callN_q (k := 44) fnok_44 (rsheet_p a ha) ?_ ?_)
 | (refine callN_q (k := 44) fnok_44 (rsheet_p b hb) ?_ ?_)
 | (refine callN_q (k := 17) fnok_17 (ints18_p _ _ _ _ ha.q hb.q) ?_ ?_)
 | (refine callN_q (k := 49) fnok_49 (samel_p _ _ _ _ ha.n hb.n ha.f hb.f) ?_ ?_))
 | ((fail_if_success (with_reducible show AW _ _ _ _)); simp (maxSteps := 2000000) only [go_sem, reduceIte, reduceCtorEq, xA, xL, xD, xE, xM, xS, xB, Tryz.f30, Go.Sea.cmpS, hva, hvb])
 | ((with_reducible refine hK _ ?_); clear hK K))
  all_goals (first | (have e := cp_hit hB (i := 0) (by omega) (cpb0f hc) (alP0 ); rw [e.1, e.2]; (repeat' (first | exact rfl | (with_reducible refine And.intro ?_ ?_))); done) | (have e := cp_hit hB (i := 1) (by omega) (cpb1f hc) (alP1 (cpb0 (by assumption))); rw [e.1, e.2]; (repeat' (first | exact rfl | (with_reducible refine And.intro ?_ ?_))); done) | (have e := cp_hit hB (i := 2) (by omega) (cpb2f hc) (alP2 (cpb0 (by assumption)) (cpb1 (by assumption))); rw [e.1, e.2]; (repeat' (first | exact rfl | (with_reducible refine And.intro ?_ ?_))); done) | (have e := cp_hit hB (i := 3) (by omega) (cpb3f hc) (alP3 (cpb0 (by assumption)) (cpb1 (by assumption)) (cpb2 (by assumption))); rw [e.1, e.2]; (repeat' (first | exact rfl | (with_reducible refine And.intro ?_ ?_))); done) | (have e := cp_hit hB (i := 4) (by omega) (cpb4f hc) (alP4 (cpb0 (by assumption)) (cpb1 (by assumption)) (cpb2 (by assumption)) (cpb3 (by assumption))); rw [e.1, e.2]; (repeat' (first | exact rfl | (with_reducible refine And.intro ?_ ?_))); done) | (have e := cp_hit hB (i := 5) (by omega) (cpb5f hc) (alP5 (cpb0 (by assumption)) (cpb1 (by assumption)) (cpb2 (by assumption)) (cpb3 (by assumption)) (cpb4 (by assumption))); rw [e.1, e.2]; (repeat' (first | exact rfl | (with_reducible refine And.intro ?_ ?_))); done) | (have e := cp_0 hB (alP6 (cpb0 (by assumption)) (cpb1 (by assumption)) (cpb2 (by assumption)) (cpb3 (by assumption)) (cpb4 (by assumption)) (cpb5 (by assumption)) (Nat.le_refl 6)); rw [e.1, e.2]; (repeat' (first | exact rfl | (with_reducible refine And.intro ?_ ?_))); done))
theorem cp_f (a b : ShtS) (ha : a.Ok) (hb : b.Ok) (hB : CpB a b = false) : CallsP Tryz.prog 29 [(shP a), (shP b)] (.tup [.one (.g (.int .i64 (CpV a b))), .one (.g (.int .i64 (CpE a b)))]) := by
  refine CallsP_of Tryz.func29 rfl (by rw [Tryz.ntmps29]; simp) ?_
  simp only [shP, Tryz.ntmps29, zM, PT.tv, argEnv, Nat.zero_add, Nat.reduceAdd]
  repeat' (first
 | ((with_reducible show AW _ _ _ _); first
 | (with_reducible first | refine aS (fun K hK => ?_) | refine aI ?_ | refine aT ?_ | refine aC ?_)
 | (first
 | (with_reducible first | refine aP 0 [0,1] ?_ | refine aP 1 [2,3] ?_ | refine aP 2 [] ?_)))
 | ((first | (with_reducible refine And.intro ?_ ?_) | (with_reducible refine Need.mk ?_)); focus (first | exact True.intro | (intro _; (with_reducible assumption)) | (simp; done)))
 | (with_reducible refine retK_n ?_)
 | ((with_reducible show condN _ _ _ _ _ _); first
 | ((with_reducible refine condN_t ?_ ?_) <;> (intro hc; (try simp only [zB, zC, reduceCtorEq] at hc); (try (exfalso; contradiction)))))
 | ((with_reducible show callN _ _ _ _ _ _ _ _ _ _); (refine callN_q (k := 34) fnok_34 (sheet_p a ha) ?_ ?_))
 | ((with_reducible show callGN _ _ _ _ _ _ _ _ _ _); (refine callGN_q (k := 34) fnok_34 (fun hg => sheet_p b hb) ?_ ?_))
 | ((fail_if_success (with_reducible show AW _ _ _ _)); simp (maxSteps := 2000000) only [go_sem, reduceIte, reduceCtorEq, xA, xL, xD, xE, xM, xS, xB, Tryz.f29, Go.Sea.cmpS])
 | ((with_reducible refine hK _ ?_); clear hK K))
  all_goals (first | (have e := cp_bad hB; rw [e.1, e.2]; (repeat' (first | exact rfl | (with_reducible refine And.intro ?_ ?_))); done) | exact (cp_no hB hc).elim)
theorem cp_t (a b : ShtS) (ha : a.Ok) (hb : b.Ok) (hB : CpB a b = true) : CallsP Tryz.prog 29 [(shP a), (shP b)] (.tup [.one (.g (.int .i64 (CpV a b))), .one (.g (.int .i64 (CpE a b)))]) := by
  have hva := (cp_spl hB).1
  have hvb := (cp_spl hB).2
  have hz : True := trivial
  refine CallsP_of Tryz.func29 rfl (by rw [Tryz.ntmps29]; simp) ?_
  simp only [shP, Tryz.ntmps29, zM, PT.tv, argEnv, Nat.zero_add, Nat.reduceAdd]
  repeat' (first
 | ((with_reducible show AW _ _ _ _); first
 | (with_reducible first | refine aS (fun K hK => ?_) | refine aI ?_ | refine aX ?_ | refine aT ?_ | refine aC ?_ | refine aB ?_)
 | (first
 | (with_reducible first | refine aP 0 [0,1] ?_ | refine aP 1 [2,3] ?_ | refine aP 3 [2,3] ?_ | refine aP 4 [2,3,16,17,18] ?_ | refine aP 5 [2,3,16,17,18] ?_ | refine aP 6 [2,3,6,7,16,17,18] ?_ | refine aP 7 [6] ?_ | refine aP 8 [2,3,16,17,18] ?_ | refine aP 9 [] ?_))
 | ((with_reducible show AW _ (Code.loop _) _ _); first
 | ((with_reducible refine aL (c := (Code.seq (Code.region 4 _ _) _)) (ι := Nat) [2,3,16,17] (fun i => [(18, iA .i64 (i : Int))]) (fun i => []) (fun i => i ≤ 6 ∧ (∀ j, j < i → cpB a b j = true)) (fun i => 6 - i) 0 ?lg4 ?l14 ?l24 ?li4 ?lr4); (case' lg4 => rintro i _); (case' li4 => try (exact ⟨Nat.zero_le _, fun i hi => absurd hi (Nat.not_lt_zero _)⟩)); (case' lr4 => rintro i ⟨hi, hai⟩ KR hR4; (clear hz; rcases (by omega : i = 0 ∨ i = 1 ∨ i = 2 ∨ i = 3 ∨ i = 4 ∨ i = 5 ∨ i = 6) with hz | hz | hz | hz | hz | hz | hz); simp only [keepE, hupd, hset, lk, if_true, if_false, xE, reduceIte, zN, Go.Sea.cmpS, hva, hvb, hz, thgF_0, thgF_1, thgF_2, thgF_3, thgF_4, thgF_5, Int.toNat_natCast, Int.toNat_zero]))))
 | ((first | (with_reducible refine And.intro ?_ ?_) | (with_reducible refine Need.mk ?_)); focus (first | exact True.intro | omega | (intro _; exact True.intro)))
 | (with_reducible refine retK_n ?_)
 | ((with_reducible show condN _ _ _ _ _ _); first
 | ((with_reducible refine condN_t ?_ ?_) <;> (intro hc; (try simp only [zB, zC, reduceCtorEq] at hc); (try (exfalso; contradiction)))))
 | ((with_reducible show callN _ _ _ _ _ _ _ _ _ _); first
 | (refine callN_q (k := 34) fnok_34 (sheet_p a ha) ?_ ?_)
 | (refine callN_q (k := 66) fnok_66 (thg_p) ?_ ?_)
 | (refine callN_q (k := 101) fnok_101 (thg0_p a b ha hb) ?_ ?_)
 | (refine callN_q (k := 102) fnok_102 (thg1_p a b ha hb) ?_ ?_)
 | (refine callN_q (k := 103) fnok_103 (thg2_p a b ha hb) ?_ ?_)
 | (refine callN_q (k := 104) fnok_104 (thg3_p a b ha hb) ?_ ?_)
 | (refine callN_q (k := 105) fnok_105 (thg4_p a b ha hb) ?_ ?_)
 | (refine callN_q (k := 106) fnok_106 (thg5_p a b ha hb) ?_ ?_))
 | ((with_reducible show callGN _ _ _ _ _ _ _ _ _ _); (refine callGN_q (k := 34) fnok_34 (fun hg => sheet_p b hb) ?_ ?_))
 | ((with_reducible refine hR4 _ (i + 1) ?_); (try clear hR4 KR))
 | ((with_reducible refine Told.mk ?_); simp only [go_sem, reduceIte, reduceCtorEq, xA, xL, xD, xE, xM, xS, xB, Go.Sea.cmpS, hva, hvb, hz, thgF_0, thgF_1, thgF_2, thgF_3, thgF_4, thgF_5, Int.toNat_natCast, Int.toNat_zero] <;> ((((try simp (disch := omega) only [seaWrap, Int.natCast_add, Int.cast_ofNat_Int, and_true, true_and, and_self]); (repeat' (first | omega | (with_reducible refine And.intro ?_ ?_) | ((first | exact stepA hai hz (cpb0 hc) rfl | exact stepA hai hz (cpb1 hc) rfl | exact stepA hai hz (datE_t hc) rfl | exact stepA hai hz (cpb3 hc) rfl | exact stepA hai hz (cpb4 hc) rfl | exact stepA hai hz (cpb5 hc) rfl)))); done))))
 | ((fail_if_success (with_reducible show AW _ _ _ _)); simp (maxSteps := 2000000) only [go_sem, reduceIte, reduceCtorEq, xA, xL, xD, xE, xM, xS, xB, Tryz.f29, Go.Sea.cmpS, hva, hvb, hz, thgF_0, thgF_1, thgF_2, thgF_3, thgF_4, thgF_5, Int.toNat_natCast, Int.toNat_zero])
 | ((fail_if_success (with_reducible show AW _ _ _ _)); simp (disch := omega) only [seaWrap, seaDiv, seaMod])
 | ((with_reducible refine hK _ ?_); clear hK K)
 | (with_reducible apply_assumption -exfalso only [*]))
  all_goals (first | (have e := cp_0 hB (fun j hj => hai j (by omega)); rw [e.1, e.2]; (repeat' (first | exact rfl | (with_reducible refine And.intro ?_ ?_))); done) | (have e := cp_hit hB (i := 0) (by omega) (cpb0f hc) (fun j hj => hai j (by omega)); rw [e.1, e.2]; (repeat' (first | exact rfl | (with_reducible refine And.intro ?_ ?_))); done) | (have e := cp_hit hB (i := 1) (by omega) (cpb1f hc) (fun j hj => hai j (by omega)); rw [e.1, e.2]; (repeat' (first | exact rfl | (with_reducible refine And.intro ?_ ?_))); done) | (have e := cp_hit hB (i := 2) (by omega) (datE_f hc) (fun j hj => hai j (by omega)); rw [e.1, e.2]; (repeat' (first | exact rfl | (with_reducible refine And.intro ?_ ?_))); done) | (have e := cp_hit hB (i := 3) (by omega) (cpb3f hc) (fun j hj => hai j (by omega)); rw [e.1, e.2]; (repeat' (first | exact rfl | (with_reducible refine And.intro ?_ ?_))); done) | (have e := cp_hit hB (i := 4) (by omega) (cpb4f hc) (fun j hj => hai j (by omega)); rw [e.1, e.2]; (repeat' (first | exact rfl | (with_reducible refine And.intro ?_ ?_))); done) | (have e := cp_hit hB (i := 5) (by omega) (cpb5f hc) (fun j hj => hai j (by omega)); rw [e.1, e.2]; (repeat' (first | exact rfl | (with_reducible refine And.intro ?_ ?_))); done))
theorem rcp_p (a b : ShtS) (ha : a.Ok) (hb : b.Ok) : CallsP Tryz.prog 30 [(shP a), (shP b)] (.tup [.one (.g (.int .i64 (CpV a b))), .one (.g (.int .i64 (CpE a b)))]) := by
  cases hB : CpB a b with
  | false => exact rcp_f a b ha hb hB
  | true => exact rcp_t a b ha hb hB
theorem cp_p (a b : ShtS) (ha : a.Ok) (hb : b.Ok) : CallsP Tryz.prog 29 [(shP a), (shP b)] (.tup [.one (.g (.int .i64 (CpV a b))), .one (.g (.int .i64 (CpE a b)))]) := by
  cases hB : CpB a b with
  | false => exact cp_f a b ha hb hB
  | true => exact cp_t a b ha hb hB
end Go.Proofs.YtdhgiklbkmkblaaGreat
set_option maxRecDepth 100000
set_option maxHeartbeats 4000000
namespace Go.Proofs.YtdhgiklbkmkblaaGreat
open Go.RowKit Go.Sea
open Nat renaming reduceAdd → xA, reduceLT → xL, reduceLeDiff → xD, reduceEqDiff → xE, reduceMul → xM, reduceSub → xS, reduceBEq → xB
theorem fnok_62 : fnOk Tryz.prog 62 = true := by kernel_rfl
def BrB (s t : ShtS) (n : Nat) (N : Nat → NotS) : Bool := shtB s && shtB t && ntsB n N && decide (s.ch = t.ch)
def oldB (s t : ShtS) : Bool := decide (∃ i, i < s.q ∧ hasL t.q t.dn (s.dn i) = false)
def brG (s t : ShtS) (n : Nat) (N : Nat → NotS) (j : Nat) : Bool := hasL s.q s.dn (t.dn j) || (fndB n N (t.dn j) && cncB (fndS n N (t.dn j)) s.ch)
def brL (s t : ShtS) : Nat → List Int
  | 0 => []
  | i + 1 => if hasL s.q s.dn (t.dn i) = true then brL s t i else brL s t i ++ [t.dn i]
def brJ (s t : ShtS) (n : Nat) (N : Nat → NotS) : Nat := fstB (fun j => !brG s t n N j) t.q
def BrE (s t : ShtS) (n : Nat) (N : Nat → NotS) : Int := if BrB s t n N = true then (if oldB s t = true then 13 else if brJ s t n N < t.q then 16 else 0) else 1
def BrL (s t : ShtS) (n : Nat) (N : Nat → NotS) : List Int := if BrE s t n N = 0 then brL s t t.q else []
theorem brL_0 (s t : ShtS) : brL s t 0 = [] := rfl
theorem brL_f {s t : ShtS} {i : Nat} (h : hasL s.q s.dn (t.dn i) = true) : brL s t (i + 1) = brL s t i := by show (if _ then _ else _) = _; rw [if_pos h]
theorem brL_t {s t : ShtS} {i : Nat} (h : hasL s.q s.dn (t.dn i) = false) : brL s t (i + 1) = brL s t i ++ [t.dn i] := by show (if _ then _ else _) = _; rw [if_neg (by rw [h]; simp)]
theorem brL_le (s t : ShtS) : ∀ i, (brL s t i).length ≤ i
  | 0 => Nat.le_refl _
  | i + 1 => by
    have := brL_le s t i
    show (if _ then _ else _ : List Int).length ≤ _
    split
    · omega
    · simp; omega
theorem brG_1 {s t : ShtS} {n : Nat} {N : Nat → NotS} {j : Nat} (h : hasL s.q s.dn (t.dn j) = true) : brG s t n N j = true := by unfold brG; rw [h]; rfl
theorem brG_2 {s t : ShtS} {n : Nat} {N : Nat → NotS} {j : Nat} (h : fndB n N (t.dn j) = true) (h2 : cncB (fndS n N (t.dn j)) s.ch = true) : brG s t n N j = true := by unfold brG; rw [h, h2]; simp
theorem brG_f {s t : ShtS} {n : Nat} {N : Nat → NotS} {j : Nat} (h0 : hasL s.q s.dn (t.dn j) = false) (h : fndB n N (t.dn j) = false ∨ cncB (fndS n N (t.dn j)) s.ch = false) : brG s t n N j = false := by
  unfold brG; rw [h0]; rcases h with h | h <;> simp [h]
theorem br_e {s t : ShtS} {n : Nat} {N : Nat → NotS} {e : Int} (h : BrE s t n N = e) (h0 : e ≠ 0) : BrL s t n N = [] ∧ BrE s t n N = e := ⟨by unfold BrL; rw [if_neg (by rw [h]; exact h0)], h⟩
theorem br_1 {s t : ShtS} {n : Nat} {N : Nat → NotS} (h : BrB s t n N = false) : BrE s t n N = 1 := by unfold BrE; rw [h]; rfl
theorem br_13 {s t : ShtS} {n : Nat} {N : Nat → NotS} (h : BrB s t n N = true) {i : Nat} (hi : (i : Int) < s.q) (h2 : hasL t.q t.dn (s.dn i) = false) : BrE s t n N = 13 := by
  have ho : oldB s t = true := decide_eq_true ⟨i, by omega, h2⟩
  unfold BrE; rw [if_pos h, if_pos ho]
theorem old_f {s t : ShtS} {i : Nat} (hi : (s.q : Int) ≤ i) (g : ∀ j, j < i → hasL t.q t.dn (s.dn j) = true) : oldB s t = false := decide_eq_false fun ⟨j, h1, h2⟩ => by rw [g j (by omega)] at h2; cases h2
theorem br_16 {s t : ShtS} {n : Nat} {N : Nat → NotS} (h : BrB s t n N = true) (ho : oldB s t = false) {i : Nat} (hi : (i : Int) < t.q) (h2 : brG s t n N i = false) (g : ∀ j, j < i → brG s t n N j = true) : BrE s t n N = 16 := by
  have e : brJ s t n N = i := fstB_h (b := fun j => !brG s t n N j) (by simp [h2]) (fun j hj => by simp [g j hj]) _ (by omega)
  unfold BrE; rw [if_pos h, if_neg (by rw [ho]; simp), e, if_pos (by omega)]
theorem br_0 {s t : ShtS} {n : Nat} {N : Nat → NotS} (h : BrB s t n N = true) (ho : oldB s t = false) {i : Nat} (hi : (t.q : Int) ≤ i) (g : ∀ j, j < i → brG s t n N j = true) : BrL s t n N = brL s t t.q ∧ BrE s t n N = 0 := by
  have e : brJ s t n N = t.q := fstB_t _ fun j hj => by simp [g j (by omega)]
  have e2 : BrE s t n N = 0 := by unfold BrE; rw [if_pos h, if_neg (by rw [ho]; simp), e, if_neg (Nat.lt_irrefl _)]
  exact ⟨by unfold BrL; rw [if_pos e2], e2⟩
theorem br_no {s t : ShtS} {n : Nat} {N : Nat → NotS} (h : BrB s t n N = false) (hc : ((shtB s = true ∧ shtB t = true) ∧ ntsB n N = true) ∧ s.ch = t.ch) : False := by
  unfold BrB at h; rw [hc.1.1.1, hc.1.1.2, hc.1.2, decide_eq_true hc.2] at h; cases h
theorem br_spl {s t : ShtS} {n : Nat} {N : Nat → NotS} (h : BrB s t n N = true) : shtB s = true ∧ shtB t = true ∧ ntsB n N = true ∧ s.ch = t.ch := by
  unfold BrB at h; simp only [Bool.and_eq_true, decide_eq_true_eq] at h; exact ⟨h.1.1.1, h.1.1.2, h.1.2, h.2⟩
theorem fndV_n {n : Nat} {N : Nat → NotS} {x : Int} (h : fndV n N x < 0) : fndB n N x = false := by
  unfold fndV at h; split at h
  · omega
  · rename_i g; exact decide_eq_false g
theorem fndV_b {n : Nat} {N : Nat → NotS} {x : Int} (h : fndV n N x ≥ 0) : fndV n N x = (fndJ n N x : Int) ∧ fndJ n N x < n ∧ fndB n N x = true ∧ fndS n N x = N (fndJ n N x) := by
  have h1 := fndV_t h
  have h2 : fndB n N x = true := decide_eq_true h1.2
  exact ⟨h1.1, h1.2, h2, (fndS_t h2).1⟩
theorem rbr_f (s t : ShtS) (n : Nat) (N : Nat → NotS) (hs : s.Ok) (ht : t.Ok) (hn : n ≤ 9223372036854775807) (hN : ∀ i, i < n → (N i).Ok) (hB : BrB s t n N = false) : CallsP Tryz.prog 28 [(shP s), (shP t), .one (.lst 7 n (notF N))] (.tup [.one (.lst 1 (BrL s t n N).length (intI (zL (BrL s t n N)))), .one (.g (.int .i64 (BrE s t n N)))]) := by
  refine CallsP_of Tryz.func28 rfl (by rw [Tryz.ntmps28]; simp) ?_
  simp only [shP, Tryz.ntmps28, zM, PT.tv, argEnv, Nat.zero_add, Nat.reduceAdd]
  repeat' (first
 | ((with_reducible show AW _ _ _ _); first
 | (with_reducible first | refine aS (fun K hK => ?_) | refine aI ?_ | refine aT ?_ | refine aC ?_)
 | ((with_reducible first | refine aP 0 [0,1,2] ?_ | refine aP 1 [2,3,4] ?_ | refine aP 2 [2,3,4,8] ?_ | refine aP 3 [2,3,4,8,9] ?_ | refine aP 4 [2,3,4,8,9,10] ?_ | refine aP 5 [] ?_)))
 | ((first | (with_reducible refine And.intro ?_ ?_) | (with_reducible refine Need.mk ?_)); focus (first | exact True.intro | (simp; done)))
 | (with_reducible refine retK_n ?_)
 | ((with_reducible show condN _ _ _ _ _ _); first
 | ((with_reducible refine condN_t ?_ ?_) <;> (intro hc; (try simp only [zB, zC, reduceCtorEq] at hc); (try (exfalso; contradiction)))))
 | ((with_reducible show callN _ _ _ _ _ _ _ _ _ _); first
 | (refine callN_q (k := 44) fnok_44 (rsheet_p s hs) ?_ ?_)
 | (refine callN_q (k := 44) fnok_44 (rsheet_p t ht) ?_ ?_)
 | (refine callN_q (k := 36) fnok_36 (rnts_p n N hn hN) ?_ ?_))
 | ((fail_if_success (with_reducible show AW _ _ _ _)); simp (maxSteps := 2000000) only [go_sem, reduceIte, reduceCtorEq, xA, xL, xD, xE, xM, xS, xB, Tryz.f28, intI])
 | ((with_reducible refine hK _ ?_); clear hK K))
  all_goals (first | (have e := br_e (br_1 hB) (by decide); rw [e.1, e.2]; (repeat' (first | exact rfl | (with_reducible refine And.intro ?_ ?_))); done) | exact (br_no hB hc).elim)
theorem rbr_t (s t : ShtS) (n : Nat) (N : Nat → NotS) (hs : s.Ok) (ht : t.Ok) (hn : n ≤ 9223372036854775807) (hN : ∀ i, i < n → (N i).Ok) (hB : BrB s t n N = true) : CallsP Tryz.prog 28 [(shP s), (shP t), .one (.lst 7 n (notF N))] (.tup [.one (.lst 1 (BrL s t n N).length (intI (zL (BrL s t n N)))), .one (.g (.int .i64 (BrE s t n N)))]) := by
  have mk0 : True := trivial
  have hfv : True := trivial
  have h4 := br_spl hB
  have hv := h4.1
  have hv2 := h4.2.1
  have hw := h4.2.2.1
  have hch := h4.2.2.2
  have hch1 : (s.ch = t.ch) = True := eq_true hch
  have hq1 := sht_q hv
  have hq2 := sht_q hv2
  refine CallsP_of Tryz.func28 rfl (by rw [Tryz.ntmps28]; simp) ?_
  simp only [shP, Tryz.ntmps28, zM, PT.tv, argEnv, Nat.zero_add, Nat.reduceAdd]
  repeat' (first
 | ((with_reducible show AW _ _ _ _); first
 | (with_reducible first | refine aS (fun K hK => ?_) | refine aI ?_ | refine aX ?_ | refine aT ?_ | refine aC ?_ | refine aB ?_)
 | (first
 | (with_reducible first | refine aP 0 [0,1,2] ?_ | refine aP 1 [2,3,4] ?_ | refine aP 2 [2,3,4,8] ?_ | refine aP 3 [2,3,4,8,9] ?_ | refine aP 4 [2,3,4,8,9,10] ?_ | refine aP 6 [2,3,4] ?_ | refine aP 7 [2,3,4,11] ?_ | refine aP 8 [2,3,4,11] ?_)
 | ((with_reducible refine aR (c := Code.region 9 _ true) [2,3,4,11] ?_); (with_reducible refine aD ?_ ?_ ?_ ?_); (focus kernel_rfl); (focus kernel_rfl); (focus kernel_rfl))
 | (with_reducible first | refine aP 10 [] ?_ | refine aP 11 [2,3,4] ?_ | refine aP 12 [2,3,4,12] ?_ | refine aP 13 [2,3,4,12,13] ?_ | refine aP 14 [2,3,4,12,13] ?_)
 | ((with_reducible refine aR (c := Code.region 15 _ true) [2,3,4,12,13] ?_); (with_reducible refine aD ?_ ?_ ?_ ?_); (focus kernel_rfl); (focus kernel_rfl); (focus kernel_rfl))
 | (with_reducible first | refine aP 16 [2,3,4,12,13] ?_ | refine aP 17 [2,3,4,12,13,14] ?_ | refine aP 18 [] ?_)
 | ((with_reducible refine aR (c := Code.region 19 _ true) [2,3,4,12,13,14] ?_); (with_reducible refine aD ?_ ?_ ?_ ?_); (focus kernel_rfl); (focus kernel_rfl); (focus kernel_rfl))
 | (with_reducible first | refine aP 20 [] ?_ | refine aP 21 [2,3,4,12,13] ?_ | refine aP 22 [12] ?_))
 | ((with_reducible show AW _ (Code.loop _) _ _); first
 | ((with_reducible refine aL (c := (Code.seq (Code.seq (Code.region 7 _ _) _) _)) (ι := Nat) [2,3,4] (fun i => [(11, iA .i64 (i : Int))]) (fun i => []) (fun i => i ≤ s.q ∧ (∀ j, j < i → hasL t.q t.dn (s.dn j) = true)) (fun i => s.q - i) 0 ?lg7 ?l17 ?l27 ?li7 ?lr7); (case' lg7 => rintro i _); (case' li7 => try (exact ⟨Nat.zero_le _, fun i hi => absurd hi (Nat.not_lt_zero _)⟩)); (case' lr7 => rintro i ⟨hi, hai⟩ KR hR7; simp only [keepE, hupd, hset, lk, if_true, if_false, xE, reduceIte, zN, hv, hv2, hw, hch1, hfv, rowI_pur, rowI_snoc, rowI_len, maxLen, brL_0, List.length_append, List.length_cons, List.length_nil]))
 | ((with_reducible refine aL (c := (Code.seq (Code.seq (Code.region 13 _ _) _) _)) (ι := Nat) [2,3,4] (fun j => [(12, .t (.one (.slc 2 0 (brL s t j).length 1))), (13, iA .i64 (j : Int))]) (fun j => [(2, rowI (brL s t j))]) (fun j => j ≤ t.q ∧ (∀ k, k < j → brG s t n N k = true)) (fun j => t.q - j) 0 ?lg13 ?l113 ?l213 ?li13 ?lr13); (case' lg13 => rintro j _); (case' li13 => try (exact ⟨Nat.zero_le _, fun i hi => absurd hi (Nat.not_lt_zero _)⟩)); (case' lr13 => rintro j ⟨hj, haj⟩ KR hR13; have oL := brL_le s t j; simp only [keepE, hupd, hset, lk, if_true, if_false, xE, reduceIte, zN, hv, hv2, hw, hch1, hfv, rowI_pur, rowI_snoc, rowI_len, maxLen, brL_0, List.length_append, List.length_cons, List.length_nil]))))
 | ((first | (with_reducible refine And.intro ?_ ?_) | (with_reducible refine Need.mk ?_)); focus (first | exact True.intro | omega))
 | (with_reducible refine retK_n ?_)
 | ((with_reducible show condN _ _ _ _ _ _); first
 | ((with_reducible refine condN_t ?_ ?_) <;> (intro hc; (try simp only [zB, zC, reduceCtorEq] at hc); ((try (clear mk0; clear hfv; have hfb := fndV_b (n := n) (N := N) (by assumption); have hfv := hfb.1))); (try (exfalso; contradiction)))))
 | ((with_reducible refine And.intro ?_ ?_); focus ((with_reducible show chkR _ _ _ = true); kernel_rfl))
 | ((with_reducible show callN _ _ _ _ _ _ _ _ _ _); first
 | (refine callN_q (k := 44) fnok_44 (rsheet_p s hs) ?_ ?_)
 | (refine callN_q (k := 44) fnok_44 (rsheet_p t ht) ?_ ?_)
 | (refine callN_q (k := 36) fnok_36 (rnts_p n N hn hN) ?_ ?_)
 | (refine callN_q (k := 58) fnok_58 (rfnd_p n N hn (t.dn j)) ?_ ?_))
 | ((with_reducible show callDN _ _ _ _ _ _ _ _ _ _ _ _ _); first
 | (refine callDN_q (k := 33) fnok_33 (rhas_p _ _ _ ht.q) ?_ ?_)
 | (refine callDN_q (k := 33) fnok_33 (rhas_p _ _ _ hs.q) ?_ ?_)
 | (refine callDN_q (k := 35) fnok_35 (rcnc_p (N (fndJ n N (t.dn j))) s.ch (hN _ hfb.2.1)) ?_ ?_))
 | ((with_reducible refine hR7 _ (i + 1) ?_); (try clear hR7 KR))
 | ((with_reducible refine hR13 _ (j + 1) ?_); (try clear hR13 KR))
 | ((with_reducible refine Told.mk ?_); simp only [go_sem, reduceIte, reduceCtorEq, xA, xL, xD, xE, xM, xS, xB, intI, hv, hv2, hw, hch1, hfv, rowI_pur, rowI_snoc, rowI_len, maxLen, brL_0, List.length_append, List.length_cons, List.length_nil] <;> (first | (((try simp (disch := omega) only [seaWrap, Int.natCast_add, Int.cast_ofNat_Int, and_true, true_and, and_self]); (repeat' (first | omega | rfl | (with_reducible refine And.intro ?_ ?_) | (exact all_succ (by assumption) (by assumption)))); done)) | (((try simp (disch := omega) only [seaWrap, Int.natCast_add, Int.cast_ofNat_Int, and_true, true_and, and_self]); (repeat' (first | omega | (with_reducible refine And.intro ?_ ?_) | ((first | rw [brL_f (by assumption)] | rw [brL_t (by assumption)])) | ((exact wkC_eq rfl (rowI_iv _))) | ((simp only [List.length_append, List.length_cons, List.length_nil, Nat.zero_add]; done)) | ((exact all_succ (by assumption) (brG_1 (by assumption)))) | ((exact all_succ (by assumption) (brG_2 hfb.2.2.1 (by rw [hfb.2.2.2]; assumption)))))); done))))
 | ((fail_if_success (with_reducible show AW _ _ _ _)); simp (maxSteps := 2000000) only [go_sem, reduceIte, reduceCtorEq, xA, xL, xD, xE, xM, xS, xB, Tryz.f28, intI, hv, hv2, hw, hch1, hfv, rowI_pur, rowI_snoc, rowI_len, maxLen, brL_0, List.length_append, List.length_cons, List.length_nil])
 | ((with_reducible refine hK _ ?_); clear hK K)
 | (with_reducible apply_assumption -exfalso only [*]))
  all_goals (first | (have e := br_e (br_13 hB (by assumption) (by assumption)) (by decide); rw [e.1, e.2]; (repeat' (first | exact rfl | (with_reducible refine And.intro ?_ ?_))); done) | (have e := br_e (br_16 hB (old_f (by assumption) hai) (by assumption) (brG_f (by assumption) (Or.inl (fndV_n (by assumption)))) haj) (by decide); rw [e.1, e.2]; (repeat' (first | exact rfl | (with_reducible refine And.intro ?_ ?_))); done) | (have e := br_e (br_16 hB (old_f (by assumption) hai) (by assumption) (brG_f (by assumption) (Or.inr (by rw [hfb.2.2.2]; assumption))) haj) (by decide); rw [e.1, e.2]; (repeat' (first | exact rfl | (with_reducible refine And.intro ?_ ?_))); done) | (have e := br_0 hB (old_f (by assumption) hai) (by assumption) haj; have e0 : t.q = j := (by omega); subst e0; rw [e.1, e.2]; (exact ⟨fun c hc9 => (by have := rowI_iv _ c hc9; cases c <;> trivial), ⟨rfl, fun i o hi ho => row_zL _ i o hi ho⟩, rfl⟩)))
theorem br_f (s t : ShtS) (n : Nat) (N : Nat → NotS) (hs : s.Ok) (ht : t.Ok) (hn : n ≤ 9223372036854775807) (hN : ∀ i, i < n → (N i).Ok) (hB : BrB s t n N = false) : CallsP Tryz.prog 27 [(shP s), (shP t), .one (.lst 7 n (notF N))] (.tup [.one (.lst 1 (BrL s t n N).length (intI (zL (BrL s t n N)))), .one (.g (.int .i64 (BrE s t n N)))]) := by
  refine CallsP_of Tryz.func27 rfl (by rw [Tryz.ntmps27]; simp) ?_
  simp only [shP, Tryz.ntmps27, zM, PT.tv, argEnv, Nat.zero_add, Nat.reduceAdd]
  repeat' (first
 | ((with_reducible show AW _ _ _ _); first
 | (with_reducible first | refine aS (fun K hK => ?_) | refine aI ?_ | refine aT ?_ | refine aC ?_)
 | (first
 | (with_reducible first | refine aP 0 [0,1,2] ?_ | refine aP 1 [2,3,4] ?_ | refine aP 2 [] ?_)))
 | ((first | (with_reducible refine And.intro ?_ ?_) | (with_reducible refine Need.mk ?_)); focus (first | exact True.intro | (intro _; (with_reducible assumption)) | (simp; done)))
 | (with_reducible refine retK_n ?_)
 | ((with_reducible show condN _ _ _ _ _ _); first
 | ((with_reducible refine condN_t ?_ ?_) <;> (intro hc; (try simp only [zB, zC, reduceCtorEq] at hc); (try (exfalso; contradiction)))))
 | ((with_reducible show callN _ _ _ _ _ _ _ _ _ _); (refine callN_q (k := 34) fnok_34 (sheet_p s hs) ?_ ?_))
 | ((with_reducible show callGN _ _ _ _ _ _ _ _ _ _); first
 | (refine callGN_q (k := 34) fnok_34 (fun hg => sheet_p t ht) ?_ ?_)
 | (refine callGN_q (k := 50) fnok_50 (fun hg => nts_p n N hn hN) ?_ ?_))
 | ((fail_if_success (with_reducible show AW _ _ _ _)); simp (maxSteps := 2000000) only [go_sem, reduceIte, reduceCtorEq, xA, xL, xD, xE, xM, xS, xB, Tryz.f27, intI])
 | ((with_reducible refine hK _ ?_); clear hK K))
  all_goals (first | (have e := br_e (br_1 hB) (by decide); rw [e.1, e.2]; (repeat' (first | exact rfl | (with_reducible refine And.intro ?_ ?_))); done) | exact (br_no hB hc).elim)
theorem br_or {n : Nat} {N : Nat → NotS} {x ch : Int} (h : (fndB n N x = false ∨ prtB (fndS n N x) ch = false) ∨ (fndS n N x).kd ≠ 1) : fndB n N x = false ∨ cncB (fndS n N x) ch = false := by
  rcases h with (h | h) | h
  · exact Or.inl h
  · exact Or.inr (cnc_f (Or.inl h))
  · exact Or.inr (cnc_f (Or.inr h))
theorem br_and {s t : ShtS} {n : Nat} {N : Nat → NotS} {j : Nat} (h : (fndB n N (t.dn j) = true ∧ prtB (fndS n N (t.dn j)) s.ch = true) ∧ (fndS n N (t.dn j)).kd = 1) : brG s t n N j = true := brG_2 h.1.1 (cnc_t ⟨h.1.2, h.2⟩)
theorem br_t (s t : ShtS) (n : Nat) (N : Nat → NotS) (hs : s.Ok) (ht : t.Ok) (hn : n ≤ 9223372036854775807) (hN : ∀ i, i < n → (N i).Ok) (hB : BrB s t n N = true) : CallsP Tryz.prog 27 [(shP s), (shP t), .one (.lst 7 n (notF N))] (.tup [.one (.lst 1 (BrL s t n N).length (intI (zL (BrL s t n N)))), .one (.g (.int .i64 (BrE s t n N)))]) := by
  have h4 := br_spl hB
  have hv := h4.1
  have hv2 := h4.2.1
  have hw := h4.2.2.1
  have hch := h4.2.2.2
  have hch1 : (s.ch = t.ch) = True := eq_true hch
  have hq1 := sht_q hv
  have hq2 := sht_q hv2
  refine CallsP_of Tryz.func27 rfl (by rw [Tryz.ntmps27]; simp) ?_
  simp only [shP, Tryz.ntmps27, zM, PT.tv, argEnv, Nat.zero_add, Nat.reduceAdd]
  repeat' (first
 | ((with_reducible show AW _ _ _ _); first
 | (with_reducible first | refine aS (fun K hK => ?_) | refine aI ?_ | refine aX ?_ | refine aT ?_ | refine aC ?_ | refine aB ?_)
 | (first
 | (with_reducible first | refine aP 0 [0,1,2] ?_ | refine aP (ops := #[⟨some 17, _, _, _, _, _⟩, _, _, _, _, _, _, _, _, _, _, _, _, _, _, _, _, _, _, _]) 1 [2,3,4] ?_ | refine aP (ops := #[⟨some 5, _, _, _, _, _⟩, _, _, _, _]) 1 [0,1] ?_ | refine aP (ops := #[⟨some 6, _, _, _, _, _⟩, _, _]) 1 [0,1] ?_ | refine aP (ops := #[⟨some 4, _, _, _, _, _⟩, _, _, _, _]) 1 [0,1] ?_ | refine aP (ops := #[⟨some 9, _, _, _, _, _⟩]) 2 [0,1,7,8] ?_ | refine aP 3 [0,1,7,8] ?_)
 | ((with_reducible refine aR (c := Code.region 3 _ true) [2,3,4] ?_); (with_reducible refine aD ?_ ?_ ?_ ?_); (focus kernel_rfl); (focus kernel_rfl); (focus kernel_rfl))
 | (with_reducible first | refine aP (ops := #[⟨some 41, _, _, _, _, _⟩, _, _, _]) 4 [2,3,4,8,9] ?_ | refine aP (ops := #[⟨some 11, _, _, _, _, _⟩, _, _, _, _, _]) 4 [0,1,5,7,8] ?_ | refine aP (ops := #[⟨some 6, _, _, _, _, _⟩, _]) 5 [] ?_ | refine aP (ops := #[⟨some 17, _, _, _, _, _⟩, _]) 5 [5] ?_ | refine aP (ops := #[⟨some 10, _, _, _, _, _⟩]) 6 [2,3,4,8] ?_ | refine aP (ops := #[⟨some 18, _, _, _, _, _⟩, _]) 6 [0,1,7,8] ?_ | refine aP (ops := #[⟨some 45, _, _, _, _, _⟩, _, _, _]) 7 [2,3,4,8,10] ?_ | refine aP (ops := #[⟨some 4, _, _, _, _, _⟩]) 7 [] ?_ | refine aP 8 [2,3,8,10,46,47,48] ?_ | refine aP 9 [2,3,8,10,46,47,48] ?_ | refine aP 10 [2,3,8,10,12,46,47,48] ?_ | refine aP 11 [2,3,8,10,12,46,47,48] ?_ | refine aP 12 [2,3,8,10,12,13,14,46,47,48] ?_ | refine aP 13 [2,3,8,10,12,13,14,16,46,47,48] ?_ | refine aP 14 [] ?_ | refine aP 15 [2,3,8,10,12,46,47,48] ?_ | refine aP 16 [2,3,8,10,46,47,48] ?_ | refine aP 17 [10] ?_))
 | ((with_reducible show AW _ (Code.loop _) _ _); first
 | ((with_reducible refine aL (c := (Code.seq (Code.region 2 _ _) _)) (ι := Nat) [0,1,7] (fun i => [(8, iA .i64 (i : Int))]) (fun i => []) (fun i => i ≤ s.q ∧ (∀ j, j < i → hasL t.q t.dn (s.dn j) = true)) (fun i => s.q - i) 0 ?lg2 ?l12 ?l22 ?li2 ?lr2); (case' lg2 => rintro i _); (case' li2 => try (exact ⟨Nat.zero_le _, fun i hi => absurd hi (Nat.not_lt_zero _)⟩)); (case' lr2 => rintro i ⟨hi, hai⟩ KR hR2; simp only [keepE, hupd, hset, lk, if_true, if_false, xE, reduceIte, zN, hv, hv2, hw, hch1, rowI_pur, rowI_snoc, rowI_len, maxLen, brL_0, List.length_append, List.length_cons, List.length_nil]))
 | ((with_reducible refine aL (c := (Code.seq (Code.region 8 _ _) _)) (ι := Nat) [2,3,8,46,47] (fun j => [(10, .t (.one (.slc 8 0 (brL s t j).length 1))), (48, iA .i64 (j : Int))]) (fun j => [(8, rowI (brL s t j))]) (fun j => j ≤ t.q ∧ (∀ k, k < j → brG s t n N k = true)) (fun j => t.q - j) 0 ?lg8 ?l18 ?l28 ?li8 ?lr8); (case' lg8 => rintro j _); (case' li8 => try (exact ⟨Nat.zero_le _, fun i hi => absurd hi (Nat.not_lt_zero _)⟩)); (case' lr8 => rintro j ⟨hj, haj⟩ KR hR8; have oL := brL_le s t j; simp only [keepE, hupd, hset, lk, if_true, if_false, xE, reduceIte, zN, hv, hv2, hw, hch1, rowI_pur, rowI_snoc, rowI_len, maxLen, brL_0, List.length_append, List.length_cons, List.length_nil]))))
 | ((first | (with_reducible refine And.intro ?_ ?_) | (with_reducible refine Need.mk ?_)); focus (first | exact True.intro | omega | (intro _; exact True.intro) | (simp; done)))
 | (with_reducible refine retK_n ?_)
 | ((with_reducible show condN _ _ _ _ _ _); first
 | ((with_reducible refine condN_t ?_ ?_) <;> (intro hc; (try simp only [zB, zC, reduceCtorEq] at hc); (try (exfalso; contradiction)))))
 | ((with_reducible refine And.intro ?_ ?_); focus ((with_reducible show chkR _ _ _ = true); kernel_rfl))
 | ((with_reducible show callN _ _ _ _ _ _ _ _ _ _); first
 | (refine callN_q (k := 34) fnok_34 (sheet_p s hs) ?_ ?_)
 | (refine callN_q (k := 63) fnok_63 (has_p t _ ht hv2) ?_ ?_)
 | (refine callN_q (k := 63) fnok_63 (has_p s _ hs hv) ?_ ?_)
 | (refine callN_q (k := 64) fnok_64 (fnd_p n N hn hN (t.dn j) hw) ?_ ?_)
 | (refine callN_q (k := 65) fnok_65 (prtF_p (fndS n N (t.dn j)) s.ch (fndS_ok hN _)) ?_ ?_)
 | ((refine callN_i (k := 61) Tryz.func61 rfl fnok_61 (by rw [Tryz.ntmps61]; simp) ?_ ?_ (fun K hK => ?_)); (focus (exact True.intro)); (focus ((simp [lsF]; done))); simp only [Tryz.ntmps61, List.map_cons, List.map_nil, List.nil_append, List.cons_append, List.append_nil, LV.tv, argEnv, Nat.zero_add, Nat.reduceAdd])
 | ((refine callN_i (k := 95) Tryz.func95 rfl fnok_95 (by rw [Tryz.ntmps95]; simp) ?_ ?_ (fun K hK => ?_)); (focus (exact True.intro)); (focus ((simp [lsF]; done))); simp only [Tryz.ntmps95, List.map_cons, List.map_nil, List.nil_append, List.cons_append, List.append_nil, LV.tv, argEnv, Nat.zero_add, Nat.reduceAdd])
 | ((refine callN_ic (k := 62) Tryz.func62 rfl fnok_62 (by rw [Tryz.ntmps62]; simp) ?_ ?_ (fun K hK => ?_)); (focus (exact True.intro)); (focus ((simp [lsF]; done))); simp only [Tryz.ntmps62, List.map_cons, List.map_nil, List.nil_append, List.cons_append, List.append_nil, LV.tv, argEnv, Nat.zero_add, Nat.reduceAdd]))
 | ((with_reducible show callGN _ _ _ _ _ _ _ _ _ _); first
 | (refine callGN_q (k := 34) fnok_34 (fun hg => sheet_p t ht) ?_ ?_)
 | (refine callGN_q (k := 50) fnok_50 (fun hg => nts_p n N hn hN) ?_ ?_))
 | ((with_reducible refine hR2 _ (i + 1) ?_); (try clear hR2 KR))
 | ((with_reducible refine hR8 _ (j + 1) ?_); (try clear hR8 KR))
 | ((with_reducible refine Told.mk ?_); simp only [go_sem, reduceIte, reduceCtorEq, xA, xL, xD, xE, xM, xS, xB, intI, hv, hv2, hw, hch1, rowI_pur, rowI_snoc, rowI_len, maxLen, brL_0, List.length_append, List.length_cons, List.length_nil] <;> (first | (((try simp (disch := omega) only [seaWrap, Int.natCast_add, Int.cast_ofNat_Int, and_true, true_and, and_self]); (repeat' (first | omega | rfl | (with_reducible refine And.intro ?_ ?_) | (exact all_succ (by assumption) (by assumption)))); done)) | (((try simp (disch := omega) only [seaWrap, Int.natCast_add, Int.cast_ofNat_Int, and_true, true_and, and_self]); (repeat' (first | omega | (with_reducible refine And.intro ?_ ?_) | ((first | rw [brL_f (by assumption)] | rw [brL_t (by assumption)])) | ((exact wkC_eq rfl (rowI_iv _))) | ((simp only [List.length_append, List.length_cons, List.length_nil, Nat.zero_add]; done)) | ((exact all_succ (by assumption) (brG_1 (by assumption)))) | ((exact all_succ (by assumption) (br_and hc))))); done))))
 | ((fail_if_success (with_reducible show AW _ _ _ _)); simp (maxSteps := 2000000) only [go_sem, reduceIte, reduceCtorEq, xA, xL, xD, xE, xM, xS, xB, Tryz.f27, Tryz.f61, Tryz.f95, Tryz.f62, intI, hv, hv2, hw, hch1, rowI_pur, rowI_snoc, rowI_len, maxLen, brL_0, List.length_append, List.length_cons, List.length_nil])
 | ((with_reducible refine hK _ ?_); clear hK K)
 | (with_reducible apply_assumption -exfalso only [*]))
  all_goals (first | (have e := br_e (br_13 hB (by assumption) (by assumption)) (by decide); rw [e.1, e.2]; (repeat' (first | exact rfl | (with_reducible refine And.intro ?_ ?_))); done) | (have e := br_e (br_16 hB (old_f (by assumption) hai) (by assumption) (brG_f (by assumption) (br_or hc)) haj) (by decide); rw [e.1, e.2]; (repeat' (first | exact rfl | (with_reducible refine And.intro ?_ ?_))); done) | (have e := br_0 hB (old_f (by assumption) hai) (by assumption) haj; have e0 : t.q = j := (by omega); subst e0; rw [e.1, e.2]; (exact ⟨fun c hc9 => (by have := rowI_iv _ c hc9; cases c <;> trivial), ⟨rfl, fun i o hi ho => row_zL _ i o hi ho⟩, rfl⟩)))
theorem rbr_p (s t : ShtS) (n : Nat) (N : Nat → NotS) (hs : s.Ok) (ht : t.Ok) (hn : n ≤ 9223372036854775807) (hN : ∀ i, i < n → (N i).Ok) : CallsP Tryz.prog 28 [(shP s), (shP t), .one (.lst 7 n (notF N))] (.tup [.one (.lst 1 (BrL s t n N).length (intI (zL (BrL s t n N)))), .one (.g (.int .i64 (BrE s t n N)))]) := by
  cases hB : BrB s t n N with
  | false => exact rbr_f s t n N hs ht hn hN hB
  | true => exact rbr_t s t n N hs ht hn hN hB
theorem br_p (s t : ShtS) (n : Nat) (N : Nat → NotS) (hs : s.Ok) (ht : t.Ok) (hn : n ≤ 9223372036854775807) (hN : ∀ i, i < n → (N i).Ok) : CallsP Tryz.prog 27 [(shP s), (shP t), .one (.lst 7 n (notF N))] (.tup [.one (.lst 1 (BrL s t n N).length (intI (zL (BrL s t n N)))), .one (.g (.int .i64 (BrE s t n N)))]) := by
  cases hB : BrB s t n N with
  | false => exact br_f s t n N hs ht hn hN hB
  | true => exact br_t s t n N hs ht hn hN hB
end Go.Proofs.YtdhgiklbkmkblaaGreat
namespace Go.Proofs.YtdhgiklbkmkblaaGreat
open Go.RowKit Go.Sea
structure StepS where
  nu : Int
  q : Nat
  a : Nat → Int
def cnI (N : Nat → NotS) (ch : Int) : Nat → List Nat
  | 0 => []
  | i + 1 => if cncB (N i) ch = true then cnI N ch i ++ [i] else cnI N ch i
theorem cnI_t {N : Nat → NotS} {ch : Int} {i : Nat} (h : cncB (N i) ch = true) : cnI N ch (i + 1) = cnI N ch i ++ [i] := by show (if _ then _ else _) = _; rw [if_pos h]
theorem cnI_f {N : Nat → NotS} {ch : Int} {i : Nat} (h : cncB (N i) ch = false) : cnI N ch (i + 1) = cnI N ch i := by show (if _ then _ else _) = _; rw [if_neg (by rw [h]; simp)]
theorem cnI_le (N : Nat → NotS) (ch : Int) : ∀ i, (cnI N ch i).length ≤ i
  | 0 => Nat.le_refl _
  | i + 1 => by
    have := cnI_le N ch i
    show (if _ then _ else _ : List Nat).length ≤ _
    split
    · simp; omega
    · omega
def numL (N : Nat → NotS) (ch : Int) (i : Nat) : List Int := (cnI N ch i).map fun j => (N j).nu
theorem numL_0 (N : Nat → NotS) (ch : Int) : numL N ch 0 = [] := rfl
theorem numL_len (N : Nat → NotS) (ch : Int) (i : Nat) : (numL N ch i).length = (cnI N ch i).length := by simp [numL]
theorem numL_t {N : Nat → NotS} {ch : Int} {i : Nat} (h : cncB (N i) ch = true) : numL N ch (i + 1) = numL N ch i ++ [(N i).nu] := by unfold numL; rw [cnI_t h]; simp
theorem numL_f {N : Nat → NotS} {ch : Int} {i : Nat} (h : cncB (N i) ch = false) : numL N ch (i + 1) = numL N ch i := by unfold numL; rw [cnI_f h]
def keepL (ns : List Int) (a : Nat → Int) : Nat → List Int
  | 0 => []
  | j + 1 => if ns.contains (a j) = true then keepL ns a j ++ [a j] else keepL ns a j
theorem keepL_0 (ns : List Int) (a : Nat → Int) : keepL ns a 0 = [] := rfl
theorem keepL_t {ns : List Int} {a : Nat → Int} {j : Nat} (h : ns.contains (a j) = true) : keepL ns a (j + 1) = keepL ns a j ++ [a j] := by show (if _ then _ else _) = _; rw [if_pos h]
theorem keepL_f {ns : List Int} {a : Nat → Int} {j : Nat} (h : ns.contains (a j) = false) : keepL ns a (j + 1) = keepL ns a j := by show (if _ then _ else _) = _; rw [if_neg (by rw [h]; simp)]
theorem keepL_le (ns : List Int) (a : Nat → Int) : ∀ j, (keepL ns a j).length ≤ j
  | 0 => Nat.le_refl _
  | j + 1 => by
    have := keepL_le ns a j
    show (if _ then _ else _ : List Int).length ≤ _
    split
    · simp; omega
    · omega
def stp0 : StepS := ⟨0, 0, fun _ => 0⟩
def stpO (ns : List Int) (n : NotS) (P : PartS) : StepS := ⟨n.nu, (keepL ns P.a P.q).length, zL (keepL ns P.a P.q)⟩
def stpL (N : Nat → NotS) (ch : Int) (ns : List Int) (i : Nat) : List StepS := (cnI N ch i).map fun j => stpO ns (N j) (prt (N j) ch)
def opsL (N : Nat → NotS) (ch : Int) (i : Nat) : List PartS := (cnI N ch i).map fun j => prt (N j) ch
theorem stpL_len (N : Nat → NotS) (ch : Int) (ns : List Int) (i : Nat) : (stpL N ch ns i).length = (cnI N ch i).length := by simp [stpL]
theorem opsL_len (N : Nat → NotS) (ch : Int) (i : Nat) : (opsL N ch i).length = (cnI N ch i).length := by simp [opsL]
theorem stpL_t {N : Nat → NotS} {ch : Int} {ns : List Int} {i : Nat} (h : cncB (N i) ch = true) : stpL N ch ns (i + 1) = stpL N ch ns i ++ [stpO ns (N i) (prt (N i) ch)] := by unfold stpL; rw [cnI_t h]; simp
theorem stpL_f {N : Nat → NotS} {ch : Int} {ns : List Int} {i : Nat} (h : cncB (N i) ch = false) : stpL N ch ns (i + 1) = stpL N ch ns i := by unfold stpL; rw [cnI_f h]
theorem opsL_t {N : Nat → NotS} {ch : Int} {i : Nat} (h : cncB (N i) ch = true) : opsL N ch (i + 1) = opsL N ch i ++ [prt (N i) ch] := by unfold opsL; rw [cnI_t h]; simp
theorem opsL_f {N : Nat → NotS} {ch : Int} {i : Nat} (h : cncB (N i) ch = false) : opsL N ch (i + 1) = opsL N ch i := by unfold opsL; rw [cnI_f h]
def stpG : StepS → Nat → IV
  | s, 0 => .g (.int .i64 s.nu)
  | s, _ + 1 => .lst 1 s.q (intI s.a)
def stpF (l : List StepS) (i o : Nat) : IV := stpG (l.getD i stp0) o
def opsF (l : List PartS) (i o : Nat) : IV := .lst 16 (l.getD i part0).k (oprF (l.getD i part0).o)
def c2 (s : StepS) : List CV := [.iv (.g (.int .i64 s.nu)), .iv (.lst 1 s.q (intI s.a))]
def rowS (l : List StepS) : List CV := l.flatMap c2
def rowO (l : List PartS) : List CV := l.map fun P => .iv (.lst 16 P.k (oprF P.o))
theorem rowS_len (l : List StepS) : (rowS l).length = l.length * 2 := by
  induction l with
  | nil => rfl
  | cons s l ih => simp only [rowS, List.flatMap_cons, List.length_append] at ih ⊢; rw [ih]; simp [c2]; omega
theorem rowO_len (l : List PartS) : (rowO l).length = l.length := by simp [rowO]
theorem rowS_iv (l : List StepS) : ∀ c, c ∈ rowS l → isIv c := by
  intro c hc
  simp only [rowS, List.mem_flatMap, c2] at hc
  obtain ⟨s, _, h⟩ := hc
  simp at h
  rcases h with rfl | rfl <;> trivial
theorem rowO_iv (l : List PartS) : ∀ c, c ∈ rowO l → isIv c := by
  intro c hc
  simp only [rowO, List.mem_map] at hc
  obtain ⟨P, _, rfl⟩ := hc
  trivial
theorem frz_iv {i : Nat} {cs : List CV} : ∀ l : List CV, (∀ c, c ∈ l → isIv c) → List.map (frzC i cs) l = l
  | [], _ => rfl
  | c :: l, h => by
    have h1 := h c (List.mem_cons_self ..)
    rw [List.map_cons, frz_iv l fun c hc => h c (List.mem_cons_of_mem _ hc)]
    cases c with
    | iv c => rfl
    | _ => exact h1.elim
theorem rowS_pur (l : List StepS) (i : Nat) : List.map (CV.purge i) (rowS l) = rowS l := purge_iv i (rowS_iv l)
theorem rowO_pur (l : List PartS) (i : Nat) : List.map (CV.purge i) (rowO l) = rowO l := purge_iv i (rowO_iv l)
theorem rowS_frz (l : List StepS) (i : Nat) (cs : List CV) : List.map (frzC i cs) (rowS l) = rowS l := frz_iv _ (rowS_iv l)
theorem rowO_frz (l : List PartS) (i : Nat) (cs : List CV) : List.map (frzC i cs) (rowO l) = rowO l := frz_iv _ (rowO_iv l)
theorem rowI_frz (l : List Int) (i : Nat) (cs : List CV) : List.map (frzC i cs) (rowI l) = rowI l := frz_iv _ (rowI_iv l)
theorem rowO_snoc (l : List PartS) (P : PartS) (i : Nat) : List.map (CV.purge i) (rowO l ++ [.iv (.lst 16 P.k (oprF P.o))]) = rowO (l ++ [P]) := by
  have e : rowO l ++ [CV.iv (.lst 16 P.k (oprF P.o))] = rowO (l ++ [P]) := by simp [rowO]
  rw [e]; exact rowO_pur _ _
theorem rowS_snoc (l : List StepS) (s : StepS) : rowS l ++ c2 s = rowS (l ++ [s]) := by simp [rowS]
theorem rowO_get (l : List PartS) (i : Nat) (h : i < l.length) : (rowO l).getD i .any = .iv (.lst 16 (l.getD i part0).k (oprF (l.getD i part0).o)) := by simp [rowO, List.getD, h]
theorem rowS_get : ∀ (l : List StepS) (i o : Nat), i < l.length → o < 2 → (rowS l).getD (i * 2 + o) .any = (c2 (l.getD i stp0)).getD o .any
  | [], _, _, h, _ => by simp at h
  | s :: l, 0, o, _, ho => by
    show (c2 s ++ rowS l).getD (0 * 2 + o) .any = (c2 s).getD o .any
    rw [Nat.zero_mul, Nat.zero_add, List.getD, List.getD, List.getElem?_append_left (by show o < 2; exact ho)]
  | s :: l, i + 1, o, h, ho => by
    show (c2 s ++ rowS l).getD ((i + 1) * 2 + o) .any = (c2 (l.getD i stp0)).getD o .any
    rw [← rowS_get l i o (by simpa using h) ho, List.getD, List.getD, List.getElem?_append_right (by show 2 ≤ _; omega)]
    congr 2
    show (i + 1) * 2 + o - 2 = _
    omega
theorem rowS_eqv (l : List StepS) : ∀ i o, i < l.length → o < 2 → (civ ((rowS l).getD (i * 2 + o) .any)).eqv (stpF l i o) := fun i o hi ho => by
  rw [rowS_get l i o hi ho]
  rcases (by omega : o = 0 ∨ o = 1) with rfl | rfl <;> exact IV.eqv_refl _
theorem rowO_eqv (l : List PartS) : ∀ i o, i < l.length → o < 1 → (civ ((rowO l).getD (i * 1 + o) .any)).eqv (opsF l i o) := fun i o hi ho => by
  obtain rfl : o = 0 := by omega
  rw [Nat.mul_one, Nat.add_zero, rowO_get _ _ hi]; exact IV.eqv_refl _
def StB (n : Nat) (N : Nat → NotS) (ch : Int) : Bool := ntsB n N && decide (1 ≤ ch ∧ ch ≤ 1000)
def StE (n : Nat) (N : Nat → NotS) (ch : Int) : Int := if StB n N ch = true then 0 else 1
def StL (n : Nat) (N : Nat → NotS) (ch : Int) : List StepS := if StB n N ch = true then stpL N ch (numL N ch n) n else []
def OpL (n : Nat) (N : Nat → NotS) (ch : Int) : List PartS := if StB n N ch = true then opsL N ch n else []
theorem st_bad {n : Nat} {N : Nat → NotS} {ch : Int} (h : StB n N ch = false) : StL n N ch = [] ∧ OpL n N ch = [] ∧ StE n N ch = 1 := by unfold StL OpL StE; rw [h]; exact ⟨rfl, rfl, rfl⟩
theorem st_ok {n : Nat} {N : Nat → NotS} {ch : Int} (h : StB n N ch = true) : StL n N ch = stpL N ch (numL N ch n) n ∧ OpL n N ch = opsL N ch n ∧ StE n N ch = 0 := by unfold StL OpL StE; rw [if_pos h, if_pos h, if_pos h]; exact ⟨rfl, rfl, rfl⟩
theorem st_spl {n : Nat} {N : Nat → NotS} {ch : Int} (h : StB n N ch = true) : ntsB n N = true ∧ n ≤ 200 ∧ 1 ≤ ch ∧ ch ≤ 1000 := by
  unfold StB at h; simp only [Bool.and_eq_true, decide_eq_true_eq] at h; exact ⟨h.1, (nts_n h.1).1, h.2.1, h.2.2⟩
theorem st_no {n : Nat} {N : Nat → NotS} {ch : Int} (h : StB n N ch = false) (hc : (ntsB n N = true ∧ 1 ≤ ch) ∧ ch ≤ 1000) : False := by
  unfold StB at h; rw [hc.1.1, decide_eq_true ⟨hc.1.2, hc.2⟩] at h; cases h
theorem cnc_spl {N : NotS} {ch : Int} (h : cncB N ch = true) : prtB N ch = true ∧ N.kd = 1 := by unfold cncB at h; simp only [Bool.and_eq_true, decide_eq_true_eq] at h; exact ⟨h.2, h.1⟩
end Go.Proofs.YtdhgiklbkmkblaaGreat
