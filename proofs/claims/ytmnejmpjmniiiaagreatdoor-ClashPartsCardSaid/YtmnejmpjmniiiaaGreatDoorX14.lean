/- Part 14 of 15: contracts of functions and plain laws for the root text. No condition. -/
import Derived.Test.YtmnejmpjmniiiaaGreatDoorX01
import Derived.Test.YtmnejmpjmniiiaaGreatDoorX02
import Derived.Test.YtmnejmpjmniiiaaGreatDoorX03
import Derived.Test.YtmnejmpjmniiiaaGreatDoorX04
import Derived.Test.YtmnejmpjmniiiaaGreatDoorX05
import Derived.Test.YtmnejmpjmniiiaaGreatDoorX06
import Derived.Test.YtmnejmpjmniiiaaGreatDoorX07
import Derived.Test.YtmnejmpjmniiiaaGreatDoorX08
import Derived.Test.YtmnejmpjmniiiaaGreatDoorX09
import Derived.Test.YtmnejmpjmniiiaaGreatDoorX10
import Derived.Test.YtmnejmpjmniiiaaGreatDoorX11
import Derived.Test.YtmnejmpjmniiiaaGreatDoorX12
import Derived.Test.YtmnejmpjmniiiaaGreatDoorX13
set_option linter.unusedVariables false
set_option linter.unusedSimpArgs false
set_option maxRecDepth 100000
set_option maxHeartbeats 4000000
namespace Go.Proofs.YtmnejmpjmniiiaaGreatDoor
open Go.RowKit Go.Sea
open Nat renaming reduceAdd → xA, reduceLT → xL, reduceLeDiff → xD, reduceEqDiff → xE, reduceMul → xM, reduceSub → xS, reduceBEq → xB
theorem u_not {a b : Nat} (ha : a < 1024) (hb : b < 1024) : bits .andNot .u64 (a : Int) (b : Int) = ((a ^^^ (a &&& b) : Nat) : Int) := u_andNot (by omega) (by omega)
theorem opY_P (x : CaS) : (opY x).P = opP x := rfl
theorem bl_e {x : CaS} (h : cvE x ≠ 0) : (blL x).length = 0 ∧ cvE x = blE x := by unfold blL blE; rw [if_neg h, if_neg h]; exact ⟨rfl, rfl⟩
theorem bl_4 {x : CaS} (he : cvE x = 0) (h : behB (opY x) (2 ^ x.m - 1) = true) : (blL x).length = 0 ∧ 4 = blE x := by unfold blL blE; rw [if_pos he, if_pos he, if_pos h, if_pos h]; exact ⟨rfl, rfl⟩
theorem bl_0 {x : CaS} (he : cvE x = 0) (h : behB (opY x) (2 ^ x.m - 1) = false) : blL x = blI x x.m ∧ 0 = blE x := by unfold blL blE; rw [if_pos he, if_pos he, h]; exact ⟨rfl, rfl⟩
theorem blm_f (x : CaS) (hx : x.Ok) (he : cvE x ≠ 0) : CallsP Tryz.prog 26 [.one (.lst 9 x.n (featF x.f)), .one (.lst 2 x.m (stF x.S)), .one (.lst 1 x.mo (ptF x.O))] (.tup [.one (.lst 1 (blL x).length (intI (zL (blL x)))), .one (.g (.int .i64 (blE x)))]) := by
  refine CallsP_of Tryz.func26 rfl (by rw [Tryz.ntmps26]; simp) ?_
  simp only [Tryz.ntmps26, zM, PT.tv, argEnv, Nat.zero_add, Nat.reduceAdd]
  repeat' (first
 | ((with_reducible show AW _ _ _ _); first
 | (with_reducible first | refine aS (fun K hK => ?_) | refine AW_label ?_ | refine AW_scope ?_ | refine aI ?_ | refine aX ?_ | refine aT ?_ | refine aC ?_ | refine aB ?_)
 | (first
 | (with_reducible first | refine aP 0 [0,1,2] ?_ | refine aP 1 [0,1,2] ?_ | refine aP 2 [1,8,9] ?_ | refine aP 3 [9] ?_ | refine aP 5 [1,8,11] ?_ | refine aP 6 [] ?_ | refine aP 9 [1,8,12,37,38] ?_ | refine aP 10 [1,8,12,37,38] ?_)
 | ((with_reducible refine aR (c := Code.region 11 _ true) [1,8,12,13,37,38] ?_); (with_reducible refine aD ?_ ?_ ?_ ?_); (focus kernel_rfl); (focus kernel_rfl); (focus kernel_rfl))
 | (with_reducible first | refine aP 12 [1,8,12,13,14,37,38] ?_ | refine aP 13 [1,8,12,13,14,37,38,47,48] ?_ | refine aP 14 [1,8,12,13,14,37,38,47,48] ?_ | refine aP 15 [1,8,12,13,14,15,37,38,47,48] ?_ | refine aP 16 [1,8,12,13,14,15,37,38,47,48] ?_ | refine aP 17 [1,8,12,13,14,37,38,47,48] ?_ | refine aP 18 [1,8,12,13,14,37,38] ?_ | refine aP 19 [1,8,12,13,17,37,38] ?_ | refine aP 20 [1,8,12,13,37,38] ?_ | refine aP 21 [1,8,12,37,38] ?_ | refine aP 22 [12] ?_)))
 | ((first | (with_reducible refine And.intro ?_ ?_) | (with_reducible refine Need.mk ?_)); focus (first | exact True.intro | (with_reducible assumption) | omega | (refine ⟨?_, ?_⟩ <;> omega) | (intro _; first | exact True.intro | (with_reducible assumption) | omega) | (intros; (repeat' (first | exact True.intro | omega | (with_reducible assumption) | (with_reducible refine And.intro ?_ ?_))); done) | (simp (disch := omega) only [Bool.and_eq_true, Bool.or_eq_true, decide_eq_true_eq, bne_iff_ne, ne_eq] at *; first | done | omega | (intros; omega)) | (simp; done) | (simp; omega) | (simp +contextual; done) | (intro h; rw [h]; rfl) | (intro hq; have hq2 := hq; simp only [Bool.and_eq_true, Bool.or_eq_true, Bool.not_eq_true', Bool.not_not, Bool.not_eq_false', decide_eq_true_eq, decide_eq_false_iff_not] at hq2; (repeat' (first | exact hq | (with_reducible refine And.intro ?_ ?_) | omega | (simp_all; done))); done) | (intros; simp_all; done)))
 | (with_reducible refine retK_n ?_)
 | (with_reducible refine retK_n' ?_)
 | (with_reducible refine retH_n rfl rfl rfl ?_)
 | (with_reducible refine retH_n' rfl rfl rfl ?_)
 | ((with_reducible show condN _ _ _ _ _ _); first
 | ((with_reducible refine condN_t ?_ ?_) <;> (intro hc; (try simp only [zB, zC, reduceCtorEq] at hc); ((try (exfalso; omega))); (try (exfalso; first | contradiction | omega)))))
 | ((with_reducible refine And.intro ?_ ?_); focus ((with_reducible show chkR _ _ _ = true); kernel_rfl))
 | ((with_reducible show callN _ _ _ _ _ _ _ _ _ _); first
 | (refine callN_q (k := 37) fnok_37 (opn_f x hx he) ?_ ?_))
 | ((fail_if_success (with_reducible show AW _ _ _ _)); simp (maxSteps := 2000000) only [go_sem, reduceIte, reduceCtorEq, xA, xL, xD, xE, xM, xS, xB, Tryz.f26])
 | ((fail_if_success (with_reducible show AW _ _ _ _)); simp (disch := omega) only [seaWrap, seaDiv, seaMod])
 | ((with_reducible refine hK _ ?_); clear hK K))
  all_goals (first | (exfalso; omega) | exact bl_e he | skip)
theorem blm_t (x : CaS) (hx : x.Ok) (he : cvE x = 0) : CallsP Tryz.prog 26 [.one (.lst 9 x.n (featF x.f)), .one (.lst 2 x.m (stF x.S)), .one (.lst 1 x.mo (ptF x.O))] (.tup [.one (.lst 1 (blL x).length (intI (zL (blL x)))), .one (.g (.int .i64 (blE x)))]) := by
  obtain ⟨hv, _, _, _, hm, _⟩ := cv_ok he
  have h2p : 0 < 2 ^ x.m := Nat.pow_pos (by decide)
  have mk0 : True := trivial
  have mk1 : True := trivial
  have mk2 : True := trivial
  have hsh : True := trivial
  have hw0 : True := trivial
  have hs2 : True := trivial
  have hwk : True := trivial
  have hsr : True := trivial
  have ha1 : True := trivial
  refine CallsP_of Tryz.func26 rfl (by rw [Tryz.ntmps26]; simp) ?_
  simp only [Tryz.ntmps26, zM, PT.tv, argEnv, Nat.zero_add, Nat.reduceAdd]
  repeat' (first
 | (refine callK_shr rfl rfl (by omega) ?_)
 | (refine callK_shl rfl rfl (by omega) ?_)
 | (refine callDK_shl rfl rfl (by omega) ?_)
 | ((with_reducible show AW _ _ _ _); first
 | (with_reducible first | refine aS (fun K hK => ?_) | refine AW_label ?_ | refine AW_scope ?_ | refine aI ?_ | refine aX ?_ | refine aT ?_ | refine aC ?_ | refine aB ?_)
 | (first
 | (with_reducible first | refine aP 0 [0,1,2] ?_ | refine aP 1 [0,1,2] ?_ | refine aP 2 [1,8,9] ?_ | refine aP 3 [9] ?_ | refine aP 4 [1,8] ?_ | refine aP 5 [1,8,11] ?_ | refine aP 6 [] ?_ | refine aP 7 [1,8] ?_ | refine aP 8 [1,8,12] ?_ | refine aP 9 [1,8,12,37,38] ?_ | refine aP 10 [1,8,12,37,38] ?_)
 | ((with_reducible refine aR (c := Code.region 11 _ true) [1,8,12,13,37,38] ?_); (with_reducible refine aD ?_ ?_ ?_ ?_); (focus kernel_rfl); (focus kernel_rfl); (focus kernel_rfl))
 | (with_reducible first | refine aP 12 [1,8,12,13,14,37,38] ?_ | refine aP 13 [1,8,12,13,14,37,38,47,48] ?_ | refine aP 14 [1,8,12,13,14,37,38,47,48] ?_ | refine aP 15 [1,8,12,13,14,15,37,38,47,48] ?_ | refine aP 16 [1,8,12,13,14,15,37,38,47,48] ?_ | refine aP 17 [1,8,12,13,14,37,38,47,48] ?_ | refine aP 18 [1,8,12,13,14,37,38] ?_ | refine aP 19 [1,8,12,13,17,37,38] ?_ | refine aP 20 [1,8,12,13,37,38] ?_ | refine aP 21 [1,8,12,37,38] ?_ | refine aP 22 [12] ?_))
 | ((with_reducible show AW _ (Code.loop _) _ _); first
 | ((with_reducible refine aL (c := (Code.seq (Code.region 9 _ _) _)) (ι := Nat) [1,8,37] (fun i => [(12, .t (.one (.slc 0 0 (blI x i).length 1))), (38, iA .i64 (i : Int))]) (fun i => [(0, rowI (blI x i))]) (fun i => i ≤ x.m) (fun i => x.m - i) 0 ?lg9 ?l19 ?l29 ?li9 ?lr9); (case' lg9 => rintro i _); (case' li9 => try (first | trivial | omega | (simp; done) | (simp; omega))); (case' lr9 => rintro i hi KR hR9; simp only [keepE, hupd, hset, lk, if_true, if_false, xE, reduceIte, zN, opY_x, opY_P, he, chC, chC3, chC1, uF0, stF0, stF1, maxLen, rowI_pur, rowI_snoc, rowI_len, blI_0, hsh, hw0, hs2, hwk, hsr, ha1]))
 | ((with_reducible refine aL (c := (Code.seq (Code.region 13 _ _) _)) (ι := Nat) [1,8,12,13,37,38,47] (fun k => [(14, .t (.one (.iv (.g (.int .u64 ((wthN (opP x) x.m i k) : Nat)))))), (48, iA .i64 (k : Int))]) (fun k => []) (fun k => k ≤ x.m) (fun k => x.m - k) 0 ?lg13 ?l113 ?l213 ?li13 ?lr13); (case' lg13 => rintro k _); (case' li13 => try (first | trivial | omega | (simp; done) | (simp; omega))); (case' lr13 => rintro k hk KR hR13; simp only [keepE, hupd, hset, lk, if_true, if_false, xE, reduceIte, zN, opY_x, opY_P, he, chC, chC3, chC1, uF0, stF0, stF1, maxLen, rowI_pur, rowI_snoc, rowI_len, blI_0, hsh, hw0, hs2, hwk, hsr, ha1]))))
 | ((first | (with_reducible refine And.intro ?_ ?_) | (with_reducible refine Need.mk ?_)); focus (first | exact True.intro | (with_reducible assumption) | omega | (refine ⟨?_, ?_⟩ <;> omega) | (intro _; first | exact True.intro | (with_reducible assumption) | omega) | (intros; (repeat' (first | exact True.intro | omega | (with_reducible assumption) | (with_reducible refine And.intro ?_ ?_))); done) | (simp (disch := omega) only [Bool.and_eq_true, Bool.or_eq_true, decide_eq_true_eq, bne_iff_ne, ne_eq] at *; first | done | omega | (intros; omega)) | (simp; done) | (simp; omega) | (simp +contextual; done) | (intro h; rw [h]; rfl) | (intro hq; have hq2 := hq; simp only [Bool.and_eq_true, Bool.or_eq_true, Bool.not_eq_true', Bool.not_not, Bool.not_eq_false', decide_eq_true_eq, decide_eq_false_iff_not] at hq2; (repeat' (first | exact hq | (with_reducible refine And.intro ?_ ?_) | omega | (simp_all; done))); done) | (intros; simp_all; done)))
 | (with_reducible refine retK_n ?_)
 | (with_reducible refine retK_n' ?_)
 | (with_reducible refine retH_n rfl rfl rfl ?_)
 | (with_reducible refine retH_n' rfl rfl rfl ?_)
 | ((with_reducible show condN _ _ _ _ _ _); first
 | ((with_reducible refine condN_t ?_ ?_) <;> (intro hc; (try simp only [zB, zC, reduceCtorEq] at hc); ((try (exfalso; omega)); (try (clear mk0 hsh hw0; have hil : i < x.m := (by omega); have hsh := u_shl6 (k := i) (by omega); have hw0 := u_not (a := 2 ^ x.m - 1) (b := 2 ^ i) (inS_lt hm (all_in x.m)) (p2_lt (by omega)); have hle := blI_le x i)); (try (clear mk1 hs2 hwk hsr ha1; have hkl : k < x.m := (by omega); have hp2 : opP x k < 1024 := lt2_10 (k := k) (by omega) (pstN_lt hv hm hkl); have hs2 := u_shl6 (k := k) (by omega); have hwk := u_not (a := (wthN (opP x) x.m i k)) (b := 2 ^ k) (inS_lt hm (wth_in k)) (p2_lt (by omega)); have hsr := u_shr6 (opP x k) i (by omega); have ha1 := u_and1 (shr_lt i (x := opP x k) (by omega)))); (try (clear mk2; have ek : k = x.m := (by omega); subst ek))); (try (exfalso; first | contradiction | omega)))))
 | ((with_reducible refine And.intro ?_ ?_); focus ((with_reducible show chkR _ _ _ = true); kernel_rfl))
 | ((with_reducible show callN _ _ _ _ _ _ _ _ _ _); first
 | (refine callN_q (k := 37) fnok_37 (opn_t x hx he) ?_ ?_)
 | (refine callN_q (k := 58) fnok_58 (all_p (opY x) (opY_ok hx he)) ?_ ?_)
 | (refine callN_q (k := 48) fnok_48 (beh_p (opY x) (opY_ok hx he) (2 ^ x.m - 1) (all_in x.m)) ?_ ?_)
 | (refine callN_q (k := 48) fnok_48 (beh_p (opY x) (opY_ok hx he) (wthN (opP x) x.m i x.m) (wth_in _)) ?_ ?_))
 | ((with_reducible show callDN _ _ _ _ _ _ _ _ _ _ _ _ _); first
 | (refine callDN_q (k := 58) fnok_58 (all_p (opY x) (opY_ok hx he)) ?_ ?_))
 | ((with_reducible refine hR9 _ (i + 1) ?_); (try clear hR9 KR))
 | ((with_reducible refine hR13 _ (k + 1) ?_); (try clear hR13 KR))
 | ((with_reducible refine Told.mk ?_); simp only [go_sem, reduceIte, reduceCtorEq, xA, xL, xD, xE, xM, xS, xB, opY_x, opY_P, he, chC, chC3, chC1, uF0, stF0, stF1, intI, maxLen, rowI_pur, rowI_snoc, rowI_len, blI_0, hsh, hw0, hs2, hwk, hsr, ha1] <;> (first | exact True.intro | (((try simp (disch := omega) only [seaWrap, Int.natCast_add, Int.cast_ofNat_Int, and_true, true_and, and_self]); (repeat' (first | exact True.intro | omega | rfl | (with_reducible assumption) | (with_reducible refine And.intro ?_ ?_) | (exact all_succ (by assumption) (by assumption)) | ((exact rfl)) | ((exact wkC_eq rfl (rowI_iv _))) | ((rw [blI_t (by assumption)]; first | rfl | exact wkC_eq rfl (rowI_iv _) | (simp; done))) | ((rw [blI_f (by assumption)]; first | rfl | exact wkC_eq rfl (rowI_iv _) | (simp; done))) | ((rw [blI_f (by assumption)])))); done)) | (((try simp (disch := omega) only [seaWrap, Int.natCast_add, Int.cast_ofNat_Int, and_true, true_and, and_self]); (repeat' (first | exact True.intro | omega | rfl | (with_reducible assumption) | (with_reducible refine And.intro ?_ ?_) | (exact all_succ (by assumption) (by assumption)) | ((exact rfl)) | ((exact wkC_eq rfl (rowI_iv _))) | ((rw [wth_t (bit_t (by assumption))])) | ((rw [wth_f (bit_f (by assumption))])))); done)) | (refine Stuck.out ?_)))
 | ((fail_if_success (with_reducible show AW _ _ _ _)); simp (maxSteps := 2000000) only [go_sem, reduceIte, reduceCtorEq, xA, xL, xD, xE, xM, xS, xB, Tryz.f26, opY_x, opY_P, he, chC, chC3, chC1, uF0, stF0, stF1, intI, maxLen, rowI_pur, rowI_snoc, rowI_len, blI_0, hsh, hw0, hs2, hwk, hsr, ha1])
 | ((fail_if_success (with_reducible show AW _ _ _ _)); simp (disch := omega) only [seaWrap, seaDiv, seaMod])
 | ((with_reducible refine hK _ ?_); clear hK K)
 | (with_reducible apply_assumption -exfalso only [*]))
  all_goals first
    | exact bl_4 he (by assumption)
    | (have e0 : i = x.m := (by omega); subst e0; have e := bl_0 he (by assumption); rw [e.1]; exact ⟨fun c hc9 => (by have := rowI_iv _ c hc9; cases c <;> first | trivial | exact this.elim), ⟨rfl, fun i o hi ho => row_zL _ i o hi ho⟩, e.2⟩)
    | skip
theorem blm_p (x : CaS) (hx : x.Ok) : CallsP Tryz.prog 26 [.one (.lst 9 x.n (featF x.f)), .one (.lst 2 x.m (stF x.S)), .one (.lst 1 x.mo (ptF x.O))] (.tup [.one (.lst 1 (blL x).length (intI (zL (blL x)))), .one (.g (.int .i64 (blE x)))]) := by
  by_cases he : cvE x = 0
  · exact blm_t x hx he
  · exact blm_f x hx he
end Go.Proofs.YtmnejmpjmniiiaaGreatDoor
namespace Go.Proofs.YtmnejmpjmniiiaaGreatDoor
open Go.RowKit Go.Sea
def opZ (kd d s : Int) (f : Feat) : OpS := ⟨kd, 1, f, 0, 0, 0, d, s⟩
def wrkF (d s : Int) : Feat := ⟨1, 2, 0, 0, 0, 0, fun _ _ => 0, d, s, 0, fun _ _ => 0⟩
def g1 (x : Int) (_ : Nat) : Int := x
def g2 (x y : Int) (i : Nat) : Int := if i = 0 then x else y
def g3 (x y z : Int) (i : Nat) : Int := if i = 0 then x else if i = 1 then y else z
def exS : Nat → StepS
  | 0 => ⟨1, 0, fun _ => 0⟩
  | 1 => ⟨2, 0, fun _ => 0⟩
  | 2 => ⟨3, 1, g1 1⟩
  | 3 => ⟨4, 0, fun _ => 0⟩
  | _ => ⟨5, 1, g1 4⟩
def exO : Nat → PtS
  | 0 => ⟨1, fun _ => opZ 4 20 0 feat0⟩
  | 1 => ⟨1, fun _ => opZ 5 0 5 feat0⟩
  | 2 => ⟨1, fun _ => opZ 4 25 0 feat0⟩
  | 3 => ⟨1, fun _ => opZ 2 0 0 feat0⟩
  | _ => ⟨1, fun _ => opZ 1 0 0 (wrkF 10 0)⟩
def exF (_ : Nat) : Feat := wrkF 30 0
def exC : CaS := ⟨1, exF, 5, exS, 5, exO⟩
def ex0 : CaS := ⟨0, exF, 5, exS, 5, exO⟩
def ex1 : CaS := ⟨0, exF, 1, exS, 1, exO⟩
theorem hd_c : cvE exC = 0 ∧ cvE ex0 = 0 ∧ cvE ex1 = 0 := ⟨by decide +kernel, by decide +kernel, by decide +kernel⟩
theorem hd_s1 : askE exC 3 (g3 1 2 3) = 0 ∧ askB exC 3 (g3 1 2 3) = true := ⟨by decide +kernel, by decide +kernel⟩
theorem hd_s2 : askE exC 1 (g1 3) = 0 ∧ askB exC 1 (g1 3) = false := ⟨by decide +kernel, by decide +kernel⟩
theorem hd_s3 : askE exC 2 (g2 4 5) = 0 ∧ askB exC 2 (g2 4 5) = true := ⟨by decide +kernel, by decide +kernel⟩
theorem hd_s4 : askE exC 2 (g2 1 4) = 0 ∧ askB exC 2 (g2 1 4) = false := ⟨by decide +kernel, by decide +kernel⟩
theorem hd_r1 : reE exC 3 (g3 1 2 3) = 0 ∧ reN exC 3 (g3 1 2 3) = 1 := ⟨by decide +kernel, by decide +kernel⟩
theorem hd_r2 : reE exC 1 (g1 3) = 15 := by decide +kernel
theorem hd_co : coE exC = 0 ∧ coL exC = [1,4] := ⟨by decide +kernel, by decide +kernel⟩
theorem hd_bl : blE exC = 0 ∧ blL exC = [4] := ⟨by decide +kernel, by decide +kernel⟩
theorem hd_o : coE ex1 = 0 ∧ coL ex1 = [1] := ⟨by decide +kernel, by decide +kernel⟩
theorem hd_b : blE ex1 = 0 ∧ blL ex1 = [1] := ⟨by decide +kernel, by decide +kernel⟩
end Go.Proofs.YtmnejmpjmniiiaaGreatDoor
set_option maxRecDepth 100000
set_option maxHeartbeats 4000000
namespace Go.Proofs.YtmnejmpjmniiiaaGreatDoor
open Go.RowKit Go.Sea
open Nat renaming reduceAdd → xA, reduceLT → xL, reduceLeDiff → xD, reduceEqDiff → xE, reduceMul → xM, reduceSub → xS, reduceBEq → xB
def eqLI (n m : Nat) (s t : Nat → Int) : Bool := decide (n = m ∧ ∀ i, i < n → s i = t i)
def eqFI (n m : Nat) (f g : Nat → Feat) : Bool := decide (n = m ∧ ∀ i, i < n → feqB (f i) (g i) = true)
end Go.Proofs.YtmnejmpjmniiiaaGreatDoor
set_option maxRecDepth 100000
set_option maxHeartbeats 4000000
namespace Go.Proofs.YtmnejmpjmniiiaaGreatDoor
open Go.RowKit Go.Sea
open Nat renaming reduceAdd → xA, reduceLT → xL, reduceLeDiff → xD, reduceEqDiff → xE, reduceMul → xM, reduceSub → xS, reduceBEq → xB
theorem eqLI_n {n m : Nat} {s t : Nat → Int} (h : (n : Int) ≠ m) : false = eqLI n m s t := (decide_eq_false fun g => by omega).symm
theorem eqLI_f {n m : Nat} {s t : Nat → Int} {i : Nat} (hi : (i : Int) < n) (h : s i ≠ t i) : false = eqLI n m s t := (decide_eq_false fun g => h (g.2 i (by omega))).symm
theorem eqLI_t {n m : Nat} {s t : Nat → Int} {i : Nat} (h : (n : Int) = m) (hi : (n : Int) ≤ i) (g : ∀ j, j < i → s j = t j) : true = eqLI n m s t := (decide_eq_true ⟨by omega, fun k hk => g k (by omega)⟩).symm
theorem eqFI_n {n m : Nat} {f g : Nat → Feat} (h : (n : Int) ≠ m) : false = eqFI n m f g := (decide_eq_false fun e => by omega).symm
theorem eqFI_f {n m : Nat} {f g : Nat → Feat} {i : Nat} (hi : (i : Int) < n) (h : feqB (f i) (g i) = false) : false = eqFI n m f g := (decide_eq_false fun e => by rw [e.2 i (by omega)] at h; cases h).symm
theorem eqFI_t {n m : Nat} {f g : Nat → Feat} {i : Nat} (h : (n : Int) = m) (hi : (n : Int) ≤ i) (ha : ∀ j, j < i → feqB (f j) (g j) = true) : true = eqFI n m f g := (decide_eq_true ⟨by omega, fun k hk => ha k (by omega)⟩).symm
def hasL (q : Nat) (a : Nat → Int) (x : Int) : Bool := decide (∃ i, i < q ∧ a i = x)
theorem hasL_f {q : Nat} {a : Nat → Int} {x : Int} {i : Nat} (hi : (q : Int) ≤ i) (g : ∀ j, j < i → a j ≠ x) : false = hasL q a x := (decide_eq_false fun ⟨j, h1, h2⟩ => g j (by omega) h2).symm
theorem hasL_t {q : Nat} {a : Nat → Int} {x : Int} {i : Nat} (hi : (i : Int) < q) (h : a i = x) : true = hasL q a x := (decide_eq_true ⟨i, by omega, h⟩).symm
theorem ints18_p (n m : Nat) (s t : Nat → Int) (hn : n ≤ 9223372036854775807) (hm : m ≤ 9223372036854775807) : CallsP Tryz.prog 23 [.one (.lst 1 n (intI s)), .one (.lst 1 m (intI t))] (.t (.one (.g (.bool (eqLI n m s t))))) := by
  refine CallsP_of Tryz.func23 rfl (by rw [Tryz.ntmps23]; simp) ?_
  simp only [Tryz.ntmps23, zM, PT.tv, argEnv, Nat.zero_add, Nat.reduceAdd]
  repeat' (first
 | ((with_reducible show AW _ _ _ _); first
 | (with_reducible first | refine aS (fun K hK => ?_) | refine aI ?_ | refine aX ?_ | refine aT ?_ | refine aC ?_ | refine aB ?_)
 | (first
 | (with_reducible first | refine aP 0 [0,1] ?_ | refine aP 1 [0,1] ?_ | refine aP 2 [] ?_ | refine aP 3 [0,1] ?_ | refine aP 4 [0,1,5] ?_ | refine aP 5 [0,1,5] ?_)
 | ((with_reducible refine aR (c := Code.region 6 _ true) [0,1,5] ?_); (with_reducible refine aD ?_ ?_ ?_ ?_); (focus kernel_rfl); (focus kernel_rfl); (focus kernel_rfl))
 | (with_reducible first | refine aP 7 [] ?_ | refine aP 8 [] ?_))
 | ((with_reducible show AW _ (Code.loop _) _ _); first
 | ((with_reducible refine aL (c := (Code.seq (Code.seq (Code.region 4 _ _) _) _)) (ι := Nat) [0,1] (fun i => [(5, iA .i64 (i : Int))]) (fun i => []) (fun i => i ≤ n ∧ (∀ i', i' < i → s i' = t i')) (fun i => n - i) 0 ?lg4 ?l14 ?l24 ?li4 ?lr4); (case' lg4 => rintro i _); (case' li4 => try (exact ⟨Nat.zero_le _, fun i hi => absurd hi (Nat.not_lt_zero _)⟩)); (case' lr4 => rintro i ⟨hi, hai⟩ KR hR4; simp only [keepE, hupd, hset, lk, if_true, if_false, xE, reduceIte, zN]))))
 | (((with_reducible refine And.intro ?_ ?_)); focus (omega))
 | (with_reducible refine retK_n ?_)
 | ((with_reducible show condN _ _ _ _ _ _); first
 | ((with_reducible refine condN_t ?_ ?_) <;> (intro hc; (try simp only [zB, zC, reduceCtorEq] at hc); (try (exfalso; contradiction)))))
 | ((with_reducible refine And.intro ?_ ?_); focus ((with_reducible show chkR _ _ _ = true); kernel_rfl))
 | ((with_reducible refine hR4 _ (i + 1) ?_); (try clear hR4 KR))
 | ((with_reducible refine Told.mk ?_); simp only [go_sem, reduceIte, reduceCtorEq, xA, xL, xD, xE, xM, xS, xB, intI] <;> ((((try simp (disch := omega) only [seaWrap, Int.natCast_add, Int.cast_ofNat_Int, and_true, true_and, and_self]); (repeat' (first | omega | (with_reducible refine And.intro ?_ ?_) | (exact all_succ (by assumption) (by assumption)) )); done))))
 | ((fail_if_success (with_reducible show AW _ _ _ _)); simp (maxSteps := 2000000) only [go_sem, reduceIte, reduceCtorEq, xA, xL, xD, xE, xM, xS, xB, Tryz.f23, intI])
 | ((with_reducible refine hK _ ?_); clear hK K)
 | (with_reducible apply_assumption -exfalso only [*]))
  all_goals first | exact eqLI_n (by assumption) | exact eqLI_f (by assumption) hc | exact eqLI_t (by omega) (by assumption) hai | skip
theorem rhas_p (q : Nat) (a : Nat → Int) (x : Int) (hq : q ≤ 9223372036854775807) : CallsP Tryz.prog 28 [.one (.lst 1 q (intI a)), .one (.g (.int .i64 x))] (.t (.one (.g (.bool (hasL q a x))))) := by
  refine CallsP_of Tryz.func28 rfl (by rw [Tryz.ntmps28]; simp) ?_
  simp only [Tryz.ntmps28, zM, PT.tv, argEnv, Nat.zero_add, Nat.reduceAdd]
  repeat' (first
 | ((with_reducible show AW _ _ _ _); first
 | (with_reducible first | refine aS (fun K hK => ?_) | refine aI ?_ | refine aX ?_ | refine aT ?_ | refine aC ?_ | refine aB ?_)
 | (first
 | (with_reducible first | refine aP 0 [0,1] ?_ | refine aP 1 [0,1] ?_ | refine aP 2 [0,1,5] ?_ | refine aP 3 [0,1,5] ?_ | refine aP 4 [0,1,5] ?_ | refine aP 5 [] ?_ | refine aP 6 [] ?_))
 | ((with_reducible show AW _ (Code.loop _) _ _); first
 | ((with_reducible refine aL (c := (Code.seq (Code.seq (Code.region 2 _ _) _) _)) (ι := Nat) [0,1] (fun i => [(5, iA .i64 (i : Int))]) (fun i => []) (fun i => i ≤ q ∧ (∀ i', i' < i → a i' ≠ x)) (fun i => q - i) 0 ?lg2 ?l12 ?l22 ?li2 ?lr2); (case' lg2 => rintro i _); (case' li2 => try (exact ⟨Nat.zero_le _, fun i hi => absurd hi (Nat.not_lt_zero _)⟩)); (case' lr2 => rintro i ⟨hi, hai⟩ KR hR2; simp only [keepE, hupd, hset, lk, if_true, if_false, xE, reduceIte, zN]))))
 | (((with_reducible refine And.intro ?_ ?_)); focus (omega))
 | (with_reducible refine retK_n ?_)
 | ((with_reducible show condN _ _ _ _ _ _); first
 | ((with_reducible refine condN_t ?_ ?_) <;> (intro hc; (try simp only [zB, zC, reduceCtorEq] at hc); (try (exfalso; contradiction)))))
 | ((with_reducible refine hR2 _ (i + 1) ?_); (try clear hR2 KR))
 | ((with_reducible refine Told.mk ?_); simp only [go_sem, reduceIte, reduceCtorEq, xA, xL, xD, xE, xM, xS, xB, intI] <;> ((((try simp (disch := omega) only [seaWrap, Int.natCast_add, Int.cast_ofNat_Int, and_true, true_and, and_self]); (repeat' (first | omega | (with_reducible refine And.intro ?_ ?_) | (exact all_succ (by assumption) (by assumption)) )); done))))
 | ((fail_if_success (with_reducible show AW _ _ _ _)); simp (maxSteps := 2000000) only [go_sem, reduceIte, reduceCtorEq, xA, xL, xD, xE, xM, xS, xB, Tryz.f28, intI])
 | ((with_reducible refine hK _ ?_); clear hK K)
 | (with_reducible apply_assumption -exfalso only [*]))
  all_goals first | exact hasL_t (by assumption) hc | exact hasL_f (by assumption) hai | skip
theorem samel_p (n m : Nat) (f g : Nat → Feat) (hn : n ≤ 9223372036854775807) (hm : m ≤ 9223372036854775807) (hf : ∀ i, i < n → (f i).Ok) (hg : ∀ i, i < m → (g i).Ok) : CallsP Tryz.prog 19 [.one (.lst 9 n (featF f)), .one (.lst 9 m (featF g))] (.t (.one (.g (.bool (eqFI n m f g))))) := by
  refine CallsP_of Tryz.func19 rfl (by rw [Tryz.ntmps19]; simp) ?_
  simp only [Tryz.ntmps19, zM, PT.tv, argEnv, Nat.zero_add, Nat.reduceAdd]
  repeat' (first
 | ((with_reducible show AW _ _ _ _); first
 | (with_reducible first | refine aS (fun K hK => ?_) | refine aI ?_ | refine aX ?_ | refine aT ?_ | refine aC ?_ | refine aB ?_)
 | (first
 | (with_reducible first | refine aP 0 [0,1] ?_ | refine aP 1 [0,1] ?_ | refine aP 2 [] ?_ | refine aP 3 [0,1] ?_ | refine aP 4 [0,1,5] ?_ | refine aP 5 [0,1,5] ?_)
 | ((with_reducible refine aR (c := Code.region 6 _ true) [0,1,5] ?_); (with_reducible refine aD ?_ ?_ ?_ ?_); (focus kernel_rfl); (focus kernel_rfl); (focus kernel_rfl))
 | (with_reducible first | refine aP 7 [] ?_ | refine aP 8 [] ?_))
 | ((with_reducible show AW _ (Code.loop _) _ _); first
 | ((with_reducible refine aL (c := (Code.seq (Code.seq (Code.region 4 _ _) _) _)) (ι := Nat) [0,1] (fun i => [(5, iA .i64 (i : Int))]) (fun i => []) (fun i => i ≤ n ∧ (∀ i', i' < i → feqB (f i') (g i') = true)) (fun i => n - i) 0 ?lg4 ?l14 ?l24 ?li4 ?lr4); (case' lg4 => rintro i _); (case' li4 => try (exact ⟨Nat.zero_le _, fun i hi => absurd hi (Nat.not_lt_zero _)⟩)); (case' lr4 => rintro i ⟨hi, hai⟩ KR hR4; simp only [keepE, hupd, hset, lk, if_true, if_false, xE, reduceIte, zN]))))
 | ((first | (with_reducible refine And.intro ?_ ?_) | (with_reducible refine Need.mk ?_)); focus (first | exact True.intro | omega))
 | (with_reducible refine retK_n ?_)
 | ((with_reducible show condN _ _ _ _ _ _); first
 | ((with_reducible refine condN_t ?_ ?_) <;> (intro hc; (try simp only [zB, zC, reduceCtorEq] at hc); (try (exfalso; contradiction)))))
 | ((with_reducible refine And.intro ?_ ?_); focus ((with_reducible show chkR _ _ _ = true); kernel_rfl))
 | ((with_reducible show callDN _ _ _ _ _ _ _ _ _ _ _ _ _); first
 | (refine callDN_q (k := 45) fnok_45 (rfsame_p (f i) (g i) (hf i (by omega)) (hg i (by omega))) ?_ ?_))
 | ((with_reducible refine hR4 _ (i + 1) ?_); (try clear hR4 KR))
 | ((with_reducible refine Told.mk ?_); simp only [go_sem, reduceIte, reduceCtorEq, xA, xL, xD, xE, xM, xS, xB] <;> ((((try simp (disch := omega) only [seaWrap, Int.natCast_add, Int.cast_ofNat_Int, and_true, true_and, and_self]); (repeat' (first | omega | (with_reducible refine And.intro ?_ ?_) | (exact all_succ (by assumption) (by assumption)) )); done))))
 | ((fail_if_success (with_reducible show AW _ _ _ _)); simp (maxSteps := 2000000) only [go_sem, reduceIte, reduceCtorEq, xA, xL, xD, xE, xM, xS, xB, Tryz.f19])
 | ((with_reducible refine hK _ ?_); clear hK K)
 | (with_reducible apply_assumption -exfalso only [*]))
  all_goals first | exact eqFI_n (by assumption) | exact eqFI_f (by assumption) hc | exact eqFI_t (by omega) (by assumption) hai | skip
end Go.Proofs.YtmnejmpjmniiiaaGreatDoor
set_option maxRecDepth 100000
set_option maxHeartbeats 4000000
namespace Go.Proofs.YtmnejmpjmniiiaaGreatDoor
open Go.RowKit Go.Sea
open Nat renaming reduceAdd → xA, reduceLT → xL, reduceLeDiff → xD, reduceEqDiff → xE, reduceMul → xM, reduceSub → xS, reduceBEq → xB
theorem ar_29 : arD Tryz.prog 29 = none := by kernel_rfl
theorem bo_50 : boD Tryz.prog 50 = false := by kernel_rfl
theorem eq_50 : eqD Tryz.prog 50 = some (true, [.int .i64, .int .i64, .int .i64, .int .i64]) := by kernel_rfl
theorem fnok_36 : fnOk Tryz.prog 36 = true := by kernel_rfl
theorem fo_26 : fieldsOk Tryz.prog 26 = true := by kernel_rfl
theorem fo_48 : fieldsOk Tryz.prog 48 = true := by kernel_rfl
theorem le_29 : lenD Tryz.prog 29 = some true := by kernel_rfl
theorem pl_112_5 : placeF Tryz.prog 112 5 = some (14, 1) := by kernel_rfl
theorem pl_112_6 : placeF Tryz.prog 112 6 = some (15, 1) := by kernel_rfl
theorem pl_26_0 : placeF Tryz.prog 26 0 = some (0, 1) := by kernel_rfl
theorem pl_26_1 : placeF Tryz.prog 26 1 = some (1, 1) := by kernel_rfl
theorem pl_26_2 : placeF Tryz.prog 26 2 = some (2, 1) := by kernel_rfl
theorem pl_48_0 : placeF Tryz.prog 48 0 = some (0, 1) := by kernel_rfl
theorem pl_48_1 : placeF Tryz.prog 48 1 = some (1, 1) := by kernel_rfl
theorem pl_66_0 : placeF Tryz.prog 66 0 = some (0, 1) := by kernel_rfl
theorem pl_66_1 : placeF Tryz.prog 66 1 = some (1, 1) := by kernel_rfl
theorem pl_66_5 : placeF Tryz.prog 66 5 = some (6, 1) := by kernel_rfl
theorem pl_66_6 : placeF Tryz.prog 66 6 = some (7, 1) := by kernel_rfl
theorem ty_26 : tyD Tryz.prog 26 = some (true, 3) := by kernel_rfl
theorem ty_50 : tyD Tryz.prog 50 = some (true, 4) := by kernel_rfl
theorem zc_26 : zeroC Tryz.prog 26 = some [.iv (.g (.slice none 0 0)), .iv (.g (.slice none 0 0)), .iv (.g (.slice none 0 0))] := by kernel_rfl
theorem zc_54 : zeroC Tryz.prog 54 = some [.iv (.g (.slice none 0 0))] := by kernel_rfl
attribute [go_sem] ar_29 bo_50 eq_50 fnok_36 fo_26 fo_48 le_29 pl_112_5 pl_112_6 pl_26_0 pl_26_1 pl_26_2 pl_48_0 pl_48_1 pl_66_0 pl_66_1 pl_66_5 pl_66_6 ty_26 ty_50 zc_26 zc_54
def kF (V : Nat → Nat → Int) (i o : Nat) : IV := .g (.int .i64 (V i o))
theorem kF0 (V : Nat → Nat → Int) (i o : Nat) : kF V i o = .g (.int .i64 (V i o)) := rfl
abbrev keP (V W : Nat → Nat → Int) (i : Nat) : Prop := V i 0 = W i 0 ∧ V i 1 = W i 1 ∧ V i 2 = W i 2 ∧ V i 3 = W i 3
def keqB (n m : Nat) (V W : Nat → Nat → Int) : Bool := decide (n = m ∧ ∀ i, i < n → keP V W i)
theorem keq_n {n m : Nat} {V W : Nat → Nat → Int} (h : (n : Int) ≠ m) : false = keqB n m V W := (decide_eq_false fun g => h (by rw [g.1])).symm
theorem keq_f {n m : Nat} {V W : Nat → Nat → Int} {i : Nat} (hi : (i : Int) < n) (h : ¬ keP V W i) : false = keqB n m V W := (decide_eq_false fun g => h (g.2 i (by omega))).symm
theorem keq_t {n m : Nat} {V W : Nat → Nat → Int} {i : Nat} (h : (n : Int) = m) (hi : (n : Int) ≤ i) (g : ∀ j, j < i → keP V W j) : true = keqB n m V W := (decide_eq_true ⟨by omega, fun j hj => g j (by omega)⟩).symm
def clsI (x : CaS) (p : Nat × Nat) : Nat → Int
  | 0 => (x.S p.1).nu
  | 1 => (x.S p.2).nu
  | 2 => comX (x.O p.1).k (x.O p.1).o (x.O p.2).k (x.O p.2).o
  | _ + 3 => comY (x.O p.1).k (x.O p.1).o (x.O p.2).k (x.O p.2).o
def prV (x : CaS) (i o : Nat) : Int := clsI x ((opL x).getD i (0, 0)) o
theorem prC_kF (x : CaS) (i o : Nat) : prC x i o = kF (prV x) i o := by
  unfold prC prV kF
  rcases o with _ | _ | _ | o <;> rfl
theorem exC_ok : exC.Ok := ⟨by decide, fun i _ => ⟨by show (0 : Nat) ≤ _; decide, by show (0 : Nat) ≤ _; decide⟩, by decide, fun i _ => by show (exS i).q ≤ _; rcases i with _ | _ | _ | _ | i <;> first | decide | (show (1 : Nat) ≤ _; decide), by decide, fun i _ => by show (exO i).k ≤ _; rcases i with _ | _ | _ | _ | i <;> first | decide | (show (1 : Nat) ≤ _; decide), fun i _ j _ => by
  show ((exO i).o j).f.Ok
  rcases i with _ | _ | _ | _ | i
  · exact feat0_ok
  · exact feat0_ok
  · exact feat0_ok
  · exact feat0_ok
  · exact ⟨by show (0 : Nat) ≤ _; decide, by show (0 : Nat) ≤ _; decide⟩⟩
theorem ex0_ok : ex0.Ok := ⟨by decide, fun i h => absurd h (Nat.not_lt_zero i), exC_ok.m, exC_ok.q, exC_ok.mo, exC_ok.k, exC_ok.o⟩
theorem ex1_ok : ex1.Ok := ⟨by decide, fun i h => absurd h (Nat.not_lt_zero i), by decide, fun i h => exC_ok.q i (by show i < 5; have : i < 1 := h; omega), by decide, fun i h => exC_ok.k i (by show i < 5; have : i < 1 := h; omega), fun i h => exC_ok.o i (by show i < 5; have : i < 1 := h; omega)⟩
theorem sac_p (n m : Nat) (V W : Nat → Nat → Int) (hn : n ≤ 9223372036854775807) (hm : m ≤ 9223372036854775807) : CallsP Tryz.prog 14 [.one (.lst 4 n (kF V)), .one (.lst 4 m (kF W))] (.t (.one (.g (.bool (keqB n m V W))))) := by
  refine CallsP_of Tryz.func14 rfl (by rw [Tryz.ntmps14]; simp) ?_
  simp only [Tryz.ntmps14, zM, PT.tv, argEnv, Nat.zero_add, Nat.reduceAdd]
  repeat' (first
 | ((with_reducible show AW _ _ _ _); first
 | (with_reducible first | refine aS (fun K hK => ?_) | refine aI ?_ | refine aX ?_ | refine aT ?_ | refine aC ?_ | refine aB ?_)
 | (first
 | (with_reducible first | refine aP 0 [0,1] ?_ | refine aP 1 [0,1] ?_ | refine aP 2 [] ?_ | refine aP 3 [0,1] ?_ | refine aP 4 [0,1,5] ?_ | refine aP 5 [0,1,5] ?_)
 | ((with_reducible refine aR (c := Code.region 6 _ true) [0,1,5] ?_); (with_reducible refine aD ?_ ?_ ?_ ?_); (focus kernel_rfl); (focus kernel_rfl); (focus kernel_rfl))
 | (with_reducible first | refine aP 7 [] ?_ | refine aP 8 [] ?_))
 | ((with_reducible show AW _ (Code.loop _) _ _); first
 | ((with_reducible refine aL (c := (Code.seq (Code.seq (Code.region 4 _ _) _) _)) (ι := Nat) [0,1] (fun i => [(5, iA .i64 (i : Int))]) (fun i => []) (fun i => i ≤ n ∧ (∀ j, j < i → keP V W j)) (fun i => n - i) 0 ?lg4 ?l14 ?l24 ?li4 ?lr4); (case' lg4 => rintro i _); (case' li4 => try (exact ⟨Nat.zero_le _, fun i hi => absurd hi (Nat.not_lt_zero _)⟩)); (case' lr4 => rintro i ⟨hi, hai⟩ KR hR4; simp only [keepE, hupd, hset, lk, if_true, if_false, xE, reduceIte, zN, kF0]))))
 | ((first | (with_reducible refine And.intro ?_ ?_) | (with_reducible refine Need.mk ?_)); focus (first | exact True.intro | (with_reducible assumption) | omega | (refine ⟨?_, ?_⟩ <;> omega) | (intro _; first | exact True.intro | (with_reducible assumption) | omega) | (intros; (repeat' (first | exact True.intro | omega | (with_reducible assumption) | (with_reducible refine And.intro ?_ ?_))); done) | (simp (disch := omega) only [Bool.and_eq_true, Bool.or_eq_true, decide_eq_true_eq, bne_iff_ne, ne_eq] at *; first | done | omega | (intros; omega)) | (simp; done) | (simp; omega) | (simp +contextual; done) | (intro h; rw [h]; rfl) | (intro hq; have hq2 := hq; simp only [Bool.and_eq_true, Bool.or_eq_true, Bool.not_eq_true', Bool.not_not, Bool.not_eq_false', decide_eq_true_eq, decide_eq_false_iff_not] at hq2; (repeat' (first | exact hq | (with_reducible refine And.intro ?_ ?_) | omega | (simp_all; done))); done) | (intros; simp_all; done)))
 | (with_reducible refine retK_n ?_)
 | (with_reducible refine retK_n' ?_)
 | (with_reducible refine retH_n rfl rfl rfl ?_)
 | (with_reducible refine retH_n' rfl rfl rfl ?_)
 | ((with_reducible show condN _ _ _ _ _ _); first
 | ((with_reducible refine condN_t ?_ ?_) <;> (intro hc; (try simp only [zB, zC, reduceCtorEq] at hc); (try (exfalso; first | contradiction | omega)))))
 | ((with_reducible refine And.intro ?_ ?_); focus ((with_reducible show chkR _ _ _ = true); kernel_rfl))
 | ((with_reducible refine hR4 _ (i + 1) ?_); (try clear hR4 KR))
 | ((with_reducible refine Told.mk ?_); simp only [go_sem, reduceIte, reduceCtorEq, xA, xL, xD, xE, xM, xS, xB, kF0] <;> (first | exact True.intro | (((try simp (disch := omega) only [seaWrap, Int.natCast_add, Int.cast_ofNat_Int, and_true, true_and, and_self]); (repeat' (first | exact True.intro | omega | rfl | (with_reducible assumption) | (with_reducible refine And.intro ?_ ?_) | (exact all_succ (by assumption) (by assumption)) | ((exact all_succ (by assumption) (by unfold keP; omega))))); done)) | (refine Stuck.out ?_)))
 | ((fail_if_success (with_reducible show AW _ _ _ _)); simp (maxSteps := 2000000) only [go_sem, reduceIte, reduceCtorEq, xA, xL, xD, xE, xM, xS, xB, Tryz.f14, kF0])
 | ((fail_if_success (with_reducible show AW _ _ _ _)); simp (disch := omega) only [seaWrap, seaDiv, seaMod])
 | ((with_reducible refine hK _ ?_); clear hK K)
 | (with_reducible apply_assumption -exfalso only [*]))
  all_goals (first | exact keq_n (by assumption) | exact keq_f (by assumption) (by unfold keP; omega) | exact keq_t (by omega) (by omega) hai | skip)
theorem wre_p (d s : Int) : CallsP Tryz.prog 36 [.one (.g (.int .i64 d)), .one (.g (.int .i64 s))] (.t (.agg [.g (.int .i64 ((wrkF d s).id)), .g (.int .i64 ((wrkF d s).kd)), .g (.int .i64 ((wrkF d s).x)), .g (.int .i64 ((wrkF d s).y)), .g (.int .i64 ((wrkF d s).r)), .lst 2 (wrkF d s).n (ptI (wrkF d s).P), .g (.int .i64 ((wrkF d s).d)), .g (.int .i64 ((wrkF d s).s)), .lst 6 (wrkF d s).m (ptI (wrkF d s).S)])) := by
  refine CallsP_of Tryz.func36 rfl (by rw [Tryz.ntmps36]; simp) ?_
  simp only [Tryz.ntmps36, zM, PT.tv, argEnv, Nat.zero_add, Nat.reduceAdd]
  repeat' (first
 | ((with_reducible show AW _ _ _ _); first
 | (with_reducible first | refine aS (fun K hK => ?_) | refine aI ?_ | refine aX ?_ | refine aT ?_ | refine aC ?_ | refine aB ?_)
 | (first
 | (with_reducible first | refine aP 0 [0,1] ?_ | refine aP 1 [0,1,4] ?_)))
 | ((first | (with_reducible refine And.intro ?_ ?_) | (with_reducible refine Need.mk ?_)); focus (first | exact True.intro | (with_reducible assumption) | omega | (refine ⟨?_, ?_⟩ <;> omega) | (intro _; first | exact True.intro | (with_reducible assumption) | omega) | (intros; (repeat' (first | exact True.intro | omega | (with_reducible assumption) | (with_reducible refine And.intro ?_ ?_))); done) | (simp (disch := omega) only [Bool.and_eq_true, Bool.or_eq_true, decide_eq_true_eq, bne_iff_ne, ne_eq] at *; first | done | omega | (intros; omega)) | (simp; done) | (simp; omega) | (simp +contextual; done) | (intro h; rw [h]; rfl) | (intro hq; have hq2 := hq; simp only [Bool.and_eq_true, Bool.or_eq_true, Bool.not_eq_true', Bool.not_not, Bool.not_eq_false', decide_eq_true_eq, decide_eq_false_iff_not] at hq2; (repeat' (first | exact hq | (with_reducible refine And.intro ?_ ?_) | omega | (simp_all; done))); done) | (intros; simp_all; done)))
 | (with_reducible refine retK_n ?_)
 | (with_reducible refine retK_n' ?_)
 | (with_reducible refine retH_n rfl rfl rfl ?_)
 | (with_reducible refine retH_n' rfl rfl rfl ?_)
 | ((with_reducible show condN _ _ _ _ _ _); first
 | ((with_reducible refine condN_t ?_ ?_) <;> (intro hc; (try simp only [zB, zC, reduceCtorEq] at hc); (try (exfalso; first | contradiction | omega)))))
 | ((fail_if_success (with_reducible show AW _ _ _ _)); simp (maxSteps := 2000000) only [go_sem, reduceIte, reduceCtorEq, xA, xL, xD, xE, xM, xS, xB, Tryz.f36])
 | ((with_reducible refine hK _ ?_); clear hK K))
  all_goals (first | (repeat' (first | rfl | exact ⟨rfl, rfl⟩ | (with_reducible refine And.intro ?_ ?_))) | skip)
theorem exa_p  : CallsP Tryz.prog 35 [] (.t (.agg [.lst 9 1 (featF exF), .lst 2 5 (stF exS), .lst 1 5 (ptF exO)])) := by
  refine CallsP_of Tryz.func35 rfl (by rw [Tryz.ntmps35]; simp) ?_
  simp only [Tryz.ntmps35, zM, PT.tv, argEnv, Nat.zero_add, Nat.reduceAdd]
  repeat' (first
 | ((with_reducible show AW _ _ _ _); first
 | (with_reducible first | refine aS (fun K hK => ?_) | refine aI ?_ | refine aX ?_ | refine aT ?_ | refine aC ?_ | refine aB ?_)
 | (first
 | (with_reducible first | refine aP 0 [] ?_ | refine aP 1 [0] ?_ | refine aP 2 [0,1] ?_ | refine AW_frz (c := Code.region 3 _ false) [1,2,3,4,5,6,7,8,9] ?_ (aP 3 [0,1,2] ?_))))
 | ((first | (with_reducible refine And.intro ?_ ?_) | (with_reducible refine Need.mk ?_)); focus (first | exact True.intro | (with_reducible assumption) | omega | (refine ⟨?_, ?_⟩ <;> omega) | (intro _; first | exact True.intro | (with_reducible assumption) | omega) | (intros; (repeat' (first | exact True.intro | omega | (with_reducible assumption) | (with_reducible refine And.intro ?_ ?_))); done) | (simp (disch := omega) only [Bool.and_eq_true, Bool.or_eq_true, decide_eq_true_eq, bne_iff_ne, ne_eq] at *; first | done | omega | (intros; omega)) | (simp; done) | (simp; omega) | (simp +contextual; done) | (intro h; rw [h]; rfl) | (intro hq; have hq2 := hq; simp only [Bool.and_eq_true, Bool.or_eq_true, Bool.not_eq_true', Bool.not_not, Bool.not_eq_false', decide_eq_true_eq, decide_eq_false_iff_not] at hq2; (repeat' (first | exact hq | (with_reducible refine And.intro ?_ ?_) | omega | (simp_all; done))); done) | (intros; simp_all; done)))
 | (with_reducible refine retK_n ?_)
 | (with_reducible refine retK_n' ?_)
 | (with_reducible refine retH_n rfl rfl rfl ?_)
 | (with_reducible refine retH_n' rfl rfl rfl ?_)
 | ((with_reducible show condN _ _ _ _ _ _); first
 | ((with_reducible refine condN_t ?_ ?_) <;> (intro hc; (try simp only [zB, zC, reduceCtorEq] at hc); (try (exfalso; first | contradiction | omega)))))
 | ((with_reducible show callN _ _ _ _ _ _ _ _ _ _); first
 | (refine callN_q (k := 36) fnok_36 (wre_p 10 0) ?_ ?_)
 | (refine callN_q (k := 36) fnok_36 (wre_p 30 0) ?_ ?_))
 | ((fail_if_success (with_reducible show AW _ _ _ _)); simp (maxSteps := 2000000) only [go_sem, reduceIte, reduceCtorEq, xA, xL, xD, xE, xM, xS, xB, Tryz.f35])
 | ((with_reducible refine hK _ ?_); clear hK K))
  all_goals (first | (refine ⟨fun i u hi hu => ?_, fun i u hi hu => ?_, fun i u hi hu => ?_⟩; (obtain rfl : i = 0 := (by omega); rcases (by omega : u = 0 ∨ u = 1 ∨ u = 2 ∨ u = 3 ∨ u = 4 ∨ u = 5 ∨ u = 6 ∨ u = 7 ∨ u = 8) with rfl | rfl | rfl | rfl | rfl | rfl | rfl | rfl | rfl <;> first | rfl | exact IV.eqv_refl _); (rcases (by omega : i = 0 ∨ i = 1 ∨ i = 2 ∨ i = 3 ∨ i = 4) with rfl | rfl | rfl | rfl | rfl <;> rcases (by omega : u = 0 ∨ u = 1) with rfl | rfl <;> first | rfl | exact ⟨rfl, rfl⟩ | exact ⟨rfl, rfl, fun p q hp hq => (by obtain rfl : p = 0 := (by omega); obtain rfl : q = 0 := (by omega); rfl)⟩); (rcases (by omega : i = 0 ∨ i = 1 ∨ i = 2 ∨ i = 3 ∨ i = 4) with rfl | rfl | rfl | rfl | rfl <;> (obtain rfl : u = 0 := (by omega); refine ⟨rfl, rfl, fun p q hp hq => ?_⟩; obtain rfl : p = 0 := (by omega); rcases (by omega : q = 0 ∨ q = 1 ∨ q = 2 ∨ q = 3 ∨ q = 4 ∨ q = 5 ∨ q = 6 ∨ q = 7 ∨ q = 8 ∨ q = 9 ∨ q = 10 ∨ q = 11 ∨ q = 12 ∨ q = 13 ∨ q = 14 ∨ q = 15) with rfl | rfl | rfl | rfl | rfl | rfl | rfl | rfl | rfl | rfl | rfl | rfl | rfl | rfl | rfl | rfl <;> first | rfl | exact ⟨rfl, rfl⟩ | exact IV.eqv_refl _))) | skip)
end Go.Proofs.YtmnejmpjmniiiaaGreatDoor
namespace Go.Proofs.YtmnejmpjmniiiaaGreatDoor
open Go.RowKit Go.Sea
open Nat renaming reduceAdd → xA, reduceLT → xL, reduceLeDiff → xD, reduceEqDiff → xE, reduceMul → xM, reduceSub → xS, reduceBEq → xB
theorem fnok_12 : fnOk Tryz.prog 12 = true := by kernel_rfl
theorem fnok_14 : fnOk Tryz.prog 14 = true := by kernel_rfl
theorem fnok_15 : fnOk Tryz.prog 15 = true := by kernel_rfl
theorem fnok_17 : fnOk Tryz.prog 17 = true := by kernel_rfl
theorem fnok_19 : fnOk Tryz.prog 19 = true := by kernel_rfl
theorem fnok_21 : fnOk Tryz.prog 21 = true := by kernel_rfl
theorem fnok_23 : fnOk Tryz.prog 23 = true := by kernel_rfl
theorem fnok_24 : fnOk Tryz.prog 24 = true := by kernel_rfl
theorem fnok_26 : fnOk Tryz.prog 26 = true := by kernel_rfl
theorem fnok_35 : fnOk Tryz.prog 35 = true := by kernel_rfl
theorem of_26_0 : offOf Tryz.prog 26 0 = some 0 := by kernel_rfl
theorem of_26_1 : offOf Tryz.prog 26 1 = some 1 := by kernel_rfl
theorem of_26_2 : offOf Tryz.prog 26 2 = some 2 := by kernel_rfl
attribute [go_sem] fnok_12 fnok_14 fnok_15 fnok_17 fnok_19 fnok_21 fnok_23 fnok_24 fnok_26 fnok_35 of_26_0 of_26_1 of_26_2
theorem ints_q (q : Nat) (a : Nat → Int) (m : Nat) (G : Nat → Int) (F : Nat → Nat → IV) (hq : q ≤ 9223372036854775807) (hm : m ≤ 9223372036854775807) (h : ∀ i o, i < m → o < 1 → (F i o).eqv (.g (.int .i64 (G i)))) : CallsP Tryz.prog 23 [.one (.lst 1 q (intI a)), .one (.lst 1 m F)] (.t (.one (.g (.bool (eqLI q m a G))))) :=
  (ints18_p q m a G hq hm).eqv (args' := [.one (.lst 1 q (intI a)), .one (.lst 1 m F)]) ⟨IV.eqv_refl _, ⟨rfl, rfl, h⟩, trivial⟩ (PV.eqv_refl _)
theorem std_q (x : CaS) (hx : x.Ok) (q : Nat) (a : Nat → Int) (hqq : q ≤ 9223372036854775807) (F : Nat → Nat → IV) (h : ∀ i o, i < q → o < 1 → (F i o).eqv (.g (.int .i64 (a i)))) : CallsP Tryz.prog 15 [.one (.lst 9 x.n (featF x.f)), .one (.lst 2 x.m (stF x.S)), .one (.lst 1 x.mo (ptF x.O)), .one (.lst 1 q F)] (.tup [.one (.g (.bool (askB x q a))), .one (.g (.int .i64 (askE x q a)))]) :=
  (std_p x hx q a hqq).eqv ⟨PT.eqv_refl _, PT.eqv_refl _, PT.eqv_refl _, ⟨rfl, rfl, h⟩, trivial⟩ (PV.eqv_refl _)
theorem res_q (x : CaS) (hx : x.Ok) (q : Nat) (a : Nat → Int) (hqq : q ≤ 9223372036854775807) (F : Nat → Nat → IV) (h : ∀ i o, i < q → o < 1 → (F i o).eqv (.g (.int .i64 (a i)))) : CallsP Tryz.prog 17 [.one (.lst 9 x.n (featF x.f)), .one (.lst 2 x.m (stF x.S)), .one (.lst 1 x.mo (ptF x.O)), .one (.lst 1 q F)] (.tup [.one (.lst 9 (reN x q a) (featF (askF x q a))), .one (.g (.int .i64 (reE x q a)))]) :=
  (res_p x hx q a hqq).eqv ⟨PT.eqv_refl _, PT.eqv_refl _, PT.eqv_refl _, ⟨rfl, rfl, h⟩, trivial⟩ (PV.eqv_refl _)
theorem prs_q (x : CaS) (hx : x.Ok) (h0 : x.n = 0) : CallsP Tryz.prog 12 [.one (.lst 2 x.m (stF x.S)), .one (.lst 1 x.mo (ptF x.O))] (.tup [.one (.lst 4 (prN x) (kF (prV x))), .one (.g (.int .i64 (cvE x)))]) :=
  (prs_p x hx h0).eqv ⟨PT.eqv_refl _, PT.eqv_refl _, trivial⟩ ⟨⟨rfl, rfl, fun i o _ _ => by rw [prC_kF]; exact IV.eqv_refl _⟩, IV.eqv_refl _, trivial⟩
theorem core_q (x : CaS) (hx : x.Ok) (h0 : x.n = 0) (F G : Nat → Nat → IV) (hF : ∀ i o, i < x.m → o < 2 → (F i o).eqv (stF x.S i o)) (hG : ∀ i o, i < x.mo → o < 1 → (G i o).eqv (ptF x.O i o)) : CallsP Tryz.prog 21 [.one (.g (.slice none 0 0)), .one (.lst 2 x.m F), .one (.lst 1 x.mo G)] (.tup [.one (.lst 1 (coL x).length (intI (zL (coL x)))), .one (.g (.int .i64 (coE x)))]) :=
  (core_p x hx).eqv ⟨by rw [h0]; exact nil_eqv _, ⟨rfl, rfl, hF⟩, ⟨rfl, rfl, hG⟩, trivial⟩ (PV.eqv_refl _)
theorem blm_q (x : CaS) (hx : x.Ok) (h0 : x.n = 0) (F G : Nat → Nat → IV) (hF : ∀ i o, i < x.m → o < 2 → (F i o).eqv (stF x.S i o)) (hG : ∀ i o, i < x.mo → o < 1 → (G i o).eqv (ptF x.O i o)) : CallsP Tryz.prog 26 [.one (.g (.slice none 0 0)), .one (.lst 2 x.m F), .one (.lst 1 x.mo G)] (.tup [.one (.lst 1 (blL x).length (intI (zL (blL x)))), .one (.g (.int .i64 (blE x)))]) :=
  (blm_p x hx).eqv ⟨by rw [h0]; exact nil_eqv _, ⟨rfl, rfl, hF⟩, ⟨rfl, rfl, hG⟩, trivial⟩ (PV.eqv_refl _)
theorem sac_q (nn m : Nat) (V W : Nat → Nat → Int) (F : Nat → Nat → IV) (hn : nn ≤ 9223372036854775807) (hm : m ≤ 9223372036854775807) (h : ∀ i o, i < m → o < 4 → (F i o).eqv (kF W i o)) : CallsP Tryz.prog 14 [.one (.lst 4 nn (kF V)), .one (.lst 4 m F)] (.t (.one (.g (.bool (keqB nn m V W))))) :=
  (sac_p nn m V W hn hm).eqv ⟨IV.eqv_refl _, ⟨rfl, rfl, h⟩, trivial⟩ (PV.eqv_refl _)
theorem sal_q (nn m : Nat) (f g : Nat → Feat) (F : Nat → Nat → IV) (hn : nn ≤ 9223372036854775807) (hm : m ≤ 9223372036854775807) (hf : ∀ i, i < nn → (f i).Ok) (hg : ∀ i, i < m → (g i).Ok) (h : ∀ i o, i < m → o < 9 → (F i o).eqv (featF g i o)) : CallsP Tryz.prog 19 [.one (.lst 9 nn (featF f)), .one (.lst 9 m F)] (.t (.one (.g (.bool (eqFI nn m f g))))) :=
  (samel_p nn m f g hn hm hf hg).eqv ⟨IV.eqv_refl _, ⟨rfl, rfl, h⟩, trivial⟩ (PV.eqv_refl _)
def exV (i o : Nat) : Int := if o = 0 then (if i < 2 then 1 else if i < 4 then 2 else 3) else if o = 1 then (if i % 2 = 0 then 4 else 5) else 0
theorem hd_pq : prN ex0 = 6 ∧ keqB 6 6 (prV ex0) exV = true := ⟨by decide +kernel, by decide +kernel⟩
theorem hd_rq : eqFI 1 1 (askF exC 3 (g3 1 2 3)) (fun _ => wrkF 25 5) = true := by decide +kernel
theorem hd_cq : eqLI (coL exC).length 2 (zL (coL exC)) (g2 1 4) = true := by decide +kernel
theorem hd_req : eqLI (rpL exC).length 3 (zL (rpL exC)) (g3 1 2 3) = true := by decide +kernel
theorem hd_blq : eqLI (blL exC).length 1 (zL (blL exC)) (g1 4) = true := by decide +kernel
theorem hd_oq : eqLI (coL ex1).length 1 (zL (coL ex1)) (g1 1) = true := by decide +kernel
theorem hd_bq : eqLI (blL ex1).length 1 (zL (blL ex1)) (g1 1) = true := by decide +kernel
theorem hd_len : (coL exC).length = 2 ∧ (rpL exC).length = 3 ∧ (blL exC).length = 1 ∧ (coL ex1).length = 1 ∧ (blL ex1).length = 1 := ⟨by decide +kernel, by decide +kernel, by decide +kernel, by decide +kernel, by decide +kernel⟩
theorem hd_fok : ∀ i, i < 1 → (askF exC 3 (g3 1 2 3) i).Ok := fun i hi => by
  obtain rfl : i = 0 := by omega
  exact feat_ok (by decide +kernel)
theorem wrkF_ok (d s : Int) : (wrkF d s).Ok := ⟨by show (0 : Nat) ≤ _; decide, by show (0 : Nat) ≤ _; decide⟩
def L6 : List CV := [.iv (.g (.int .i64 1)), .iv (.g (.int .i64 4)), .iv (.g (.int .i64 0)), .iv (.g (.int .i64 0)), .iv (.g (.int .i64 1)), .iv (.g (.int .i64 5)), .iv (.g (.int .i64 0)), .iv (.g (.int .i64 0)), .iv (.g (.int .i64 2)), .iv (.g (.int .i64 4)), .iv (.g (.int .i64 0)), .iv (.g (.int .i64 0)), .iv (.g (.int .i64 2)), .iv (.g (.int .i64 5)), .iv (.g (.int .i64 0)), .iv (.g (.int .i64 0)), .iv (.g (.int .i64 3)), .iv (.g (.int .i64 4)), .iv (.g (.int .i64 0)), .iv (.g (.int .i64 0)), .iv (.g (.int .i64 3)), .iv (.g (.int .i64 5)), .iv (.g (.int .i64 0)), .iv (.g (.int .i64 0))]
theorem hd_D6 : ∀ i o, i < 6 → o < 4 → (civ (L6.getD (i * 4 + o) .any)).eqv (kF exV i o) := fun i o hi ho => by
  rcases (by omega : i = 0 ∨ i = 1 ∨ i = 2 ∨ i = 3 ∨ i = 4 ∨ i = 5) with rfl | rfl | rfl | rfl | rfl | rfl <;> rcases (by omega : o = 0 ∨ o = 1 ∨ o = 2 ∨ o = 3) with rfl | rfl | rfl | rfl <;> exact rfl
set_option maxRecDepth 100000 in
set_option maxHeartbeats 16000000 in
theorem head_p  : CallsP Tryz.prog 11 [] (.t (.one (.g (.bool true)))) := by
  refine CallsP_of Tryz.func11 rfl (by rw [Tryz.ntmps11]; simp) ?_
  simp only [Tryz.ntmps11, zM, PT.tv, argEnv, Nat.zero_add, Nat.reduceAdd]
  repeat' (first
 | ((with_reducible show callGN _ _ true _ _ _ _ _ _ _); (with_reducible refine callGN_sq (fun _ => ?_) (fun h => by cases h)))
 | ((with_reducible show callN _ _ (some 234) _ _ _ _ _ _ _); (refine callN_q (k := 23) fnok_23 (ints_q (coL exC).length (zL (coL exC)) 2 (g2 1 4) _ (by rw [hd_len.1]; decide) (by decide) (fun i o hi ho => by obtain rfl : o = 0 := (by omega); rcases (by omega : i = 0 ∨ i = 1) with rfl | rfl <;> rfl)) ?_ ?_))
 | ((with_reducible show callN _ _ (some 239) _ _ _ _ _ _ _); (refine callN_q (k := 23) fnok_23 (ints_q (rpL exC).length (zL (rpL exC)) 3 (g3 1 2 3) _ (by rw [hd_len.2.1]; decide) (by decide) (fun i o hi ho => by obtain rfl : o = 0 := (by omega); rcases (by omega : i = 0 ∨ i = 1 ∨ i = 2) with rfl | rfl | rfl <;> rfl)) ?_ ?_))
 | ((with_reducible show callN _ _ (some 244) _ _ _ _ _ _ _); (refine callN_q (k := 23) fnok_23 (ints_q (blL exC).length (zL (blL exC)) 1 (g1 4) _ (by rw [hd_len.2.2.1]; decide) (by decide) (fun i o hi ho => by obtain rfl : i = 0 := (by omega); obtain rfl : o = 0 := (by omega); rfl)) ?_ ?_))
 | ((with_reducible show callN _ _ (some 250) _ _ _ _ _ _ _); (refine callN_q (k := 23) fnok_23 (ints_q (coL ex1).length (zL (coL ex1)) 1 (g1 1) _ (by rw [hd_len.2.2.2.1]; decide) (by decide) (fun i o hi ho => by obtain rfl : i = 0 := (by omega); obtain rfl : o = 0 := (by omega); rfl)) ?_ ?_))
 | ((with_reducible show callN _ _ (some 255) _ _ _ _ _ _ _); (refine callN_q (k := 23) fnok_23 (ints_q (blL ex1).length (zL (blL ex1)) 1 (g1 1) _ (by rw [hd_len.2.2.2.2]; decide) (by decide) (fun i o hi ho => by obtain rfl : i = 0 := (by omega); obtain rfl : o = 0 := (by omega); rfl)) ?_ ?_))
 | ((with_reducible show callN _ _ (some 88) _ _ _ _ _ _ _); (refine callN_zq (k := 17) [5] ?_ ?_))
 | ((with_reducible show callN _ _ (some 99) _ _ _ _ _ _ _); (refine callN_zq (k := 17) [6] ?_ ?_))
 | ((with_reducible show callN _ _ (some 77) _ _ _ _ _ _ _); (refine callN_q (k := 15) fnok_15 (std_q exC exC_ok 2 (g2 1 4) (by decide) _ (fun i o hi ho => by obtain rfl : o = 0 := (by omega); rcases (by omega : i = 0 ∨ i = 1) with rfl | rfl <;> rfl)) ?_ ?_))
 | ((with_reducible show AW _ _ _ _); first
 | (with_reducible first | refine aS (fun K hK => ?_) | refine aI ?_ | refine aX ?_ | refine aT ?_ | refine aC ?_ | refine aB ?_ | refine AW_eq (by assumption) ?_)
 | (first
 | (with_reducible first | refine aP 0 [] ?_ | refine aP 1 [] ?_ | refine aP 2 [1] ?_ | refine aP 3 [1,2,3] ?_ | refine aP 4 [1,2,3,4,5] ?_ | refine aP 5 [1,2,3,4,5,6,7] ?_ | refine aP 6 [1,2,3,4,5,6,7,8,9] ?_ | refine aP 7 [1,2,3,4,5,6,7,8,9,10,11] ?_ | refine aP 8 [1,2,3,4,5,6,7,8,9,10,11,12,13] ?_ | refine aP 9 [1,2,3,4,5,6,7,8,9,10,11,12,13,15] ?_ | refine aP 10 [1,2,3,4,5,6,7,8,9,10,11,12,13,15,16,17] ?_ | refine aP 11 [1,2,3,4,5,6,7,8,9,10,11,12,13,15,16,17,18,19] ?_)
 | ((with_reducible refine aR (c := Code.region 12 _ true) [1,2,3,4,5,6,7,8,9,10,11,12,13,15,16,17,18,19,20,21] ?_); (with_reducible refine aD ?_ ?_ ?_ ?_); (focus kernel_rfl); (focus kernel_rfl); (focus kernel_rfl))
 | ((with_reducible refine aR (c := Code.region 13 _ true) [1,2,3,4,5,6,7,8,9,10,11,12,13,15,16,17,18,19,20,21,22,23] ?_); (with_reducible refine aD ?_ ?_ ?_ ?_); (focus kernel_rfl); (focus kernel_rfl); (focus kernel_rfl))
 | (with_reducible first | refine aP 14 [2,3,4,5,6,7,8,9,10,11,12,13,15,16,17,18,19,20,21,22,23,24,25] ?_ | refine aP 15 [2,4,6,8,10,12,16,18,20,22,24,26] ?_ | refine aP 16 [12,16,18,20,22,24,26] ?_ | refine aP 17 [22,24,26] ?_)))
 | ((first | (with_reducible refine And.intro ?_ ?_) | (with_reducible refine Need.mk ?_)); focus (first | exact True.intro | (with_reducible assumption) | omega | (refine ⟨?_, ?_⟩ <;> omega) | (intro _; first | exact True.intro | (with_reducible assumption) | omega) | (intros; (repeat' (first | exact True.intro | omega | (with_reducible assumption) | (with_reducible refine And.intro ?_ ?_))); done) | (simp (disch := omega) only [Bool.and_eq_true, Bool.or_eq_true, decide_eq_true_eq, bne_iff_ne, ne_eq] at *; first | done | omega | (intros; omega)) | (simp; done) | (simp; omega) | (simp +contextual; done) | (intro h; rw [h]; rfl) | (intro hq; have hq2 := hq; simp only [Bool.and_eq_true, Bool.or_eq_true, Bool.not_eq_true', Bool.not_not, Bool.not_eq_false', decide_eq_true_eq, decide_eq_false_iff_not] at hq2; (repeat' (first | exact hq | (with_reducible refine And.intro ?_ ?_) | omega | (simp_all; done))); done) | (intros; simp_all; done)))
 | (with_reducible refine retK_n ?_)
 | (with_reducible refine retK_n' ?_)
 | (with_reducible refine retH_n rfl rfl rfl ?_)
 | (with_reducible refine retH_n' rfl rfl rfl ?_)
 | ((with_reducible show condN _ _ _ _ _ _); first
 | ((with_reducible refine condN_t ?_ ?_) <;> (intro hc; (try simp only [zB, zC, reduceCtorEq] at hc); (try (exfalso; first | contradiction | omega)))))
 | ((with_reducible refine And.intro ?_ ?_); focus ((with_reducible show chkR _ _ _ = true); kernel_rfl))
 | ((with_reducible show callN _ _ _ _ _ _ _ _ _ _); first
 | (refine callN_q (k := 35) fnok_35 (exa_p) ?_ ?_)
 | (refine callN_q (k := 36) fnok_36 (wre_p 25 5) ?_ ?_)
 | (refine callN_q (k := 12) fnok_12 (prs_q ex0 ex0_ok rfl) ?_ ?_)
 | (refine callN_q (k := 15) fnok_15 (std_q exC exC_ok 3 (g3 1 2 3) (by decide) _ (fun i o hi ho => by obtain rfl : o = 0 := (by omega); rcases (by omega : i = 0 ∨ i = 1 ∨ i = 2) with rfl | rfl | rfl <;> rfl)) ?_ ?_)
 | (refine callN_q (k := 15) fnok_15 (std_q exC exC_ok 2 (g2 4 5) (by decide) _ (fun i o hi ho => by obtain rfl : o = 0 := (by omega); rcases (by omega : i = 0 ∨ i = 1) with rfl | rfl <;> rfl)) ?_ ?_)
 | (refine callN_q (k := 15) fnok_15 (std_q exC exC_ok 2 (g2 1 4) (by decide) _ (fun i o hi ho => by obtain rfl : o = 0 := (by omega); rcases (by omega : i = 0 ∨ i = 1) with rfl | rfl <;> rfl)) ?_ ?_)
 | (refine callN_q (k := 15) fnok_15 (std_q exC exC_ok 1 (g1 3) (by decide) _ (fun i o hi ho => by obtain rfl : i = 0 := (by omega); obtain rfl : o = 0 := (by omega); rfl)) ?_ ?_)
 | (refine callN_q (k := 17) fnok_17 (res_q exC exC_ok 3 (g3 1 2 3) (by decide) _ (fun i o hi ho => by obtain rfl : o = 0 := (by omega); rcases (by omega : i = 0 ∨ i = 1 ∨ i = 2) with rfl | rfl | rfl <;> rfl)) ?_ ?_)
 | (refine callN_q (k := 17) fnok_17 (res_q exC exC_ok 1 (g1 3) (by decide) _ (fun i o hi ho => by obtain rfl : i = 0 := (by omega); obtain rfl : o = 0 := (by omega); rfl)) ?_ ?_)
 | (refine callN_q (k := 21) fnok_21 (core_p exC exC_ok) ?_ ?_)
 | (refine callN_q (k := 21) fnok_21 (core_q ex1 ex1_ok rfl _ _ (fun i o hi ho => IV.eqv_refl _) (fun i o hi ho => IV.eqv_refl _)) ?_ ?_)
 | (refine callN_q (k := 24) fnok_24 (rep_p exC exC_ok) ?_ ?_)
 | (refine callN_q (k := 26) fnok_26 (blm_p exC exC_ok) ?_ ?_)
 | (refine callN_q (k := 26) fnok_26 (blm_q ex1 ex1_ok rfl _ _ (fun i o hi ho => IV.eqv_refl _) (fun i o hi ho => IV.eqv_refl _)) ?_ ?_)
 | (refine callN_q (k := 14) fnok_14 (sac_q 6 6 (prV ex0) exV (fun p o => civ (L6.getD (p * 4 + o) .any)) (by decide) (by decide) hd_D6) ?_ ?_)
 | (refine callN_q (k := 19) fnok_19 (sal_q 1 1 (askF exC 3 (g3 1 2 3)) (fun _ => wrkF 25 5) _ (by decide) (by decide) hd_fok (fun _ _ => wrkF_ok 25 5) (fun i u hi hu => by obtain rfl : i = 0 := (by omega); rcases (by omega : u = 0 ∨ u = 1 ∨ u = 2 ∨ u = 3 ∨ u = 4 ∨ u = 5 ∨ u = 6 ∨ u = 7 ∨ u = 8) with rfl | rfl | rfl | rfl | rfl | rfl | rfl | rfl | rfl <;> first | rfl | exact IV.eqv_refl _)) ?_ ?_))
 | ((with_reducible show callGN _ _ _ _ _ _ _ _ _ _); first
 | (refine callGN_q (k := 36) fnok_36 (fun hg => wre_p 25 5) ?_ ?_)
 | (refine callGN_q (k := 14) fnok_14 (fun hg => sac_q 6 6 (prV ex0) exV (fun p o => civ (L6.getD (p * 4 + o) .any)) (by decide) (by decide) hd_D6) ?_ ?_)
 | (refine callGN_q (k := 19) fnok_19 (fun hg => sal_q 1 1 (askF exC 3 (g3 1 2 3)) (fun _ => wrkF 25 5) _ (by decide) (by decide) hd_fok (fun _ _ => wrkF_ok 25 5) (fun i u hi hu => by obtain rfl : i = 0 := (by omega); rcases (by omega : u = 0 ∨ u = 1 ∨ u = 2 ∨ u = 3 ∨ u = 4 ∨ u = 5 ∨ u = 6 ∨ u = 7 ∨ u = 8) with rfl | rfl | rfl | rfl | rfl | rfl | rfl | rfl | rfl <;> first | rfl | exact IV.eqv_refl _)) ?_ ?_))
 | ((with_reducible show callDN _ _ _ _ _ _ _ _ _ _ _ _ _); first
 | (refine callDN_q (k := 21) fnok_21 (core_p exC exC_ok) ?_ ?_)
 | (refine callDN_q (k := 21) fnok_21 (core_q ex1 ex1_ok rfl _ _ (fun i o hi ho => IV.eqv_refl _) (fun i o hi ho => IV.eqv_refl _)) ?_ ?_)
 | (refine callDN_q (k := 26) fnok_26 (blm_p exC exC_ok) ?_ ?_)
 | (refine callDN_q (k := 26) fnok_26 (blm_q ex1 ex1_ok rfl _ _ (fun i o hi ho => IV.eqv_refl _) (fun i o hi ho => IV.eqv_refl _)) ?_ ?_))
 | ((fail_if_success (with_reducible show AW _ _ _ _)); simp (maxSteps := 2000000) only [go_sem, reduceIte, reduceCtorEq, xA, xL, xD, xE, xM, xS, xB, Tryz.f11, hd_c.1, hd_c.2.1, hd_c.2.2, hd_pq.1, hd_pq.2, hd_s1.1, hd_s1.2, hd_s2.1, hd_s2.2, hd_s3.1, hd_s3.2, hd_s4.1, hd_s4.2, hd_r1.1, hd_r1.2, hd_r2, hd_rq, hd_co.1, hd_bl.1, hd_o.1, hd_b.1, hd_cq, hd_req, hd_blq, hd_oq, hd_bq, Bool.and_self, Int.reduceToNat])
 | ((with_reducible show callN _ _ _ _ _ _ (.yld _) _ _ _); (refine callN_y (by simp only [lkL, if_true]; exact rfl) ?_ (by simp) ?_ ?_ (fun K hK => ?_)); (focus (first | exact True.intro | (with_reducible assumption) | omega | (refine ⟨?_, ?_⟩ <;> omega) | (intro _; first | exact True.intro | (with_reducible assumption) | omega) | (intros; (repeat' (first | exact True.intro | omega | (with_reducible assumption) | (with_reducible refine And.intro ?_ ?_))); done) | (simp (disch := omega) only [Bool.and_eq_true, Bool.or_eq_true, decide_eq_true_eq, bne_iff_ne, ne_eq] at *; first | done | omega | (intros; omega)) | (simp; done) | (simp; omega) | (simp +contextual; done) | (intro h; rw [h]; rfl) | (intro hq; have hq2 := hq; simp only [Bool.and_eq_true, Bool.or_eq_true, Bool.not_eq_true', Bool.not_not, Bool.not_eq_false', decide_eq_true_eq, decide_eq_false_iff_not] at hq2; (repeat' (first | exact hq | (with_reducible refine And.intro ?_ ?_) | omega | (simp_all; done))); done) | (intros; simp_all; done))); (focus (simp [ltAll])); (focus (first | (simp [lsF]; done) | assumption | exact ⟨Nat.ne_of_lt (Nat.lt_succ_self _), by assumption⟩)); simp only [zipPut, gf, if_true, Nat.reduceAdd])
 | ((with_reducible refine hK _ ?_); clear hK K)
 | (with_reducible apply_assumption -exfalso only [*]))
end Go.Proofs.YtmnejmpjmniiiaaGreatDoor
namespace Go.Proofs.YtmnejmpjmniiiaaGreatDoor
open Go.RowKit Go.Sea
def runP {σ : Type} : List (σ → Option σ) → σ → Option σ
  | [], s => some s
  | f :: l, s => (f s).bind (runP l)
theorem runP_app {σ : Type} : ∀ (l m : List (σ → Option σ)) (s : σ), runP (l ++ m) s = (runP l s).bind (runP m)
  | [], _, _ => rfl
  | f :: l, m, s => by
    show (f s).bind (runP (l ++ m)) = ((f s).bind (runP l)).bind (runP m)
    cases f s with
    | none => rfl
    | some t => exact runP_app l m t
theorem bindSm {σ : Type} (x : Option σ) : x.bind some = x := by cases x <;> rfl
structure FreeP {σ : Type} (f g : σ → Option σ) : Prop where
  com : ∀ s, (f s).bind g = (g s).bind f
  dia : ∀ s, (f s).isSome = true → (g s).isSome = true → ((f s).bind g).isSome = true
theorem FreeP.symm {σ : Type} {f g : σ → Option σ} (h : FreeP f g) : FreeP g f :=
  ⟨fun s => (h.com s).symm, fun s a b => by rw [← h.com]; exact h.dia s b a⟩
theorem FreeP.run {σ : Type} {f : σ → Option σ} : ∀ {l : List (σ → Option σ)}, (∀ g, g ∈ l → FreeP f g) → FreeP f (runP l)
  | [], _ => ⟨fun s => bindSm (f s), fun s a _ => by show ((f s).bind some).isSome = true; rw [bindSm]; exact a⟩
  | g :: l, h => by
    have hg := h g (List.mem_cons_self ..)
    have ih := FreeP.run (fun k hk => h k (List.mem_cons_of_mem _ hk))
    have com : ∀ s, (f s).bind (runP (g :: l)) = (runP (g :: l) s).bind f := fun s => by
      show (f s).bind (fun t => (g t).bind (runP l)) = ((g s).bind (runP l)).bind f
      have e1 : (f s).bind (fun t => (g t).bind (runP l)) = ((f s).bind g).bind (runP l) := by cases f s <;> rfl
      have e2 : ((g s).bind (runP l)).bind f = (g s).bind (fun t => (runP l t).bind f) := by cases g s <;> rfl
      rw [e1, e2, hg.com]
      cases g s with
      | none => rfl
      | some t => exact ih.com t
    refine ⟨com, fun s a b => ?_⟩
    have b' : ((g s).bind (runP l)).isSome = true := b
    cases hgs : g s with
    | none => rw [hgs] at b'; cases b'
    | some t =>
      rw [hgs] at b'
      have d := hg.dia s a (by rw [hgs]; rfl)
      rw [hg.com, hgs] at d
      have := ih.dia t d b'
      rw [com]
      show (((g s).bind (runP l)).bind f).isSome = true
      rw [hgs]
      show ((runP l t).bind f).isSome = true
      rw [← ih.com]; exact this
theorem run_part {σ α : Type} (F : α → σ → Option σ) (t : α → Bool) : ∀ {S : List α}, S.Pairwise (fun a b => t b = true → t a = false → FreeP (F a) (F b)) → ∀ s, runP (S.map F) s = (runP ((S.filter t).map F) s).bind (runP ((S.filter fun a => !t a).map F))
  | [], _, _ => rfl
  | a :: S, h, s => by
    have hp := List.pairwise_cons.1 h
    by_cases ha : t a = true
    · rw [List.filter_cons_of_pos ha, List.filter_cons_of_neg (by simp [ha])]
      show (F a s).bind (runP (S.map F)) = ((F a s).bind (runP ((S.filter t).map F))).bind _
      cases F a s with
      | none => rfl
      | some u => exact run_part F t hp.2 u
    · rw [List.filter_cons_of_neg ha, List.filter_cons_of_pos (by simp [ha])]
      show (F a s).bind (runP (S.map F)) = (runP ((S.filter t).map F) s).bind (fun u => (F a u).bind (runP ((S.filter fun a => !t a).map F)))
      have hf : FreeP (F a) (runP ((S.filter t).map F)) := FreeP.run fun g hg => by
        obtain ⟨b, hb, rfl⟩ := List.mem_map.1 hg
        have := List.mem_filter.1 hb
        exact hp.1 b this.1 this.2 (by simpa using ha)
      have e1 : ∀ (x : Option σ), x.bind (fun u => (F a u).bind (runP ((S.filter fun a => !t a).map F))) = (x.bind (F a)).bind (runP ((S.filter fun a => !t a).map F)) := fun x => by cases x <;> rfl
      rw [e1, ← hf.com]
      cases F a s with
      | none => rfl
      | some u => exact run_part F t hp.2 u
def updM (m : Int → Option Feat) (k : Int) (x : Option Feat) : Int → Option Feat := fun j => if j = k then x else m j
theorem updM_at (m : Int → Option Feat) (k : Int) (x : Option Feat) : updM m k x k = x := by unfold updM; rw [if_pos rfl]
theorem updM_ne (m : Int → Option Feat) {k j : Int} (x : Option Feat) (h : j ≠ k) : updM m k x j = m j := by unfold updM; rw [if_neg h]
theorem updM_comm (m : Int → Option Feat) {a b : Int} (x y : Option Feat) (h : a ≠ b) : updM (updM m a x) b y = updM (updM m b y) a x := by
  funext j
  unfold updM
  by_cases h1 : j = b
  · rw [if_pos h1, if_neg (fun e => h (by rw [← e, h1])), if_pos h1]
  · rw [if_neg h1]
    by_cases h2 : j = a
    · rw [if_pos h2, if_pos h2]
    · rw [if_neg h2, if_neg h2, if_neg h1]
theorem updM_twice (m : Int → Option Feat) (k : Int) (x y : Option Feat) : updM (updM m k x) k y = updM m k y := by
  funext j; unfold updM; by_cases h : j = k
  · rw [if_pos h, if_pos h]
  · rw [if_neg h, if_neg h, if_neg h]
def doX (o : OpS) (x : Option Feat) : Option (Option Feat) :=
  if o.kd = 1 then (match x with
    | none => some (some o.f)
    | some _ => none)
  else match x with
    | none => none
    | some f => if o.kd = 2 then some none else if chgE f o = 0 then some (some (chgF f o)) else none
def doM (o : OpS) (m : Int → Option Feat) : Option (Int → Option Feat) := (doX o (m o.id)).map (updM m o.id)
def frO (a b : OpS) : Prop := a.id ≠ b.id ∨ (3 ≤ a.kd ∧ a.kd ≤ 5) ∧ (3 ≤ b.kd ∧ b.kd ≤ 5) ∧ a.kd ≠ b.kd
theorem chgF_kd (f : Feat) (o : OpS) : (chgF f o).kd = f.kd := by
  unfold chgF; repeat' split
  all_goals rfl
theorem chgE_of {f g : Feat} (h : f.kd = g.kd) (o : OpS) : chgE f o = chgE g o := by unfold chgE; rw [h]
theorem chgF_comm {a b : OpS} (h : a.kd ≠ b.kd) (f : Feat) : chgF (chgF f a) b = chgF (chgF f b) a := by
  unfold chgF
  repeat' split
  all_goals first | rfl | omega
theorem doX_f {o : OpS} (h : 3 ≤ o.kd ∧ o.kd ≤ 5) (x : Option Feat) : doX o x = x.bind fun f => if chgE f o = 0 then some (some (chgF f o)) else none := by
  unfold doX
  rw [if_neg (by omega)]
  cases x with
  | none => rfl
  | some f => show (if o.kd = 2 then _ else _) = _; rw [if_neg (by omega)]; rfl
theorem free_do {a b : OpS} (h : frO a b) : FreeP (doM a) (doM b) := by
  by_cases hi : a.id = b.id
  · obtain ⟨ha, hb, hk⟩ := h.resolve_left (fun k => k hi)
    have ea : ∀ m, doM a m = (m a.id).bind fun f => if chgE f a = 0 then some (updM m a.id (some (chgF f a))) else none := fun m => by
      unfold doM; rw [doX_f ha]
      cases m a.id with
      | none => rfl
      | some f => show Option.map _ (if _ then _ else _) = (if _ then _ else _); split <;> rfl
    have eb : ∀ m, doM b m = (m a.id).bind fun f => if chgE f b = 0 then some (updM m a.id (some (chgF f b))) else none := fun m => by
      unfold doM; rw [doX_f hb, hi]
      cases m b.id with
      | none => rfl
      | some f => show Option.map _ (if _ then _ else _) = (if _ then _ else _); split <;> rfl
    have key : ∀ (o : OpS) (f : Feat) (m : Int → Option Feat) (o2 : OpS), (∀ m, doM o2 m = (m a.id).bind fun f => if chgE f o2 = 0 then some (updM m a.id (some (chgF f o2))) else none) → doM o2 (updM m a.id (some (chgF f o))) = if chgE f o2 = 0 then some (updM m a.id (some (chgF (chgF f o) o2))) else none := fun o f m o2 e => by
      rw [e, updM_at]
      show (if chgE (chgF f o) o2 = 0 then _ else _) = _
      rw [chgE_of (chgF_kd f o) o2, updM_twice]
    refine ⟨fun m => ?_, fun m h1 h2 => ?_⟩
    · rw [ea m, eb m]
      cases hm : m a.id with
      | none => rfl
      | some f =>
        show ((if chgE f a = 0 then some (updM m a.id (some (chgF f a))) else none).bind (doM b)) = ((if chgE f b = 0 then some (updM m a.id (some (chgF f b))) else none).bind (doM a))
        by_cases h1 : chgE f a = 0 <;> by_cases h2 : chgE f b = 0
        · rw [if_pos h1, if_pos h2]
          show doM b _ = doM a _
          rw [key a f m b eb, key b f m a ea, if_pos h1, if_pos h2, chgF_comm hk]
        · rw [if_pos h1, if_neg h2]
          show doM b _ = none
          rw [key a f m b eb, if_neg h2]
        · rw [if_neg h1, if_pos h2]
          show none = doM a _
          rw [key b f m a ea, if_neg h1]
        · rw [if_neg h1, if_neg h2]; rfl
    · rw [ea m] at h1 ⊢
      rw [eb m] at h2
      cases hm : m a.id with
      | none => rw [hm] at h1; cases h1
      | some f =>
        rw [hm] at h1 h2
        have h1' : (if chgE f a = 0 then some (updM m a.id (some (chgF f a))) else none).isSome = true := h1
        have h2' : (if chgE f b = 0 then some (updM m a.id (some (chgF f b))) else none).isSome = true := h2
        have g1 : chgE f a = 0 := by
          by_cases g : chgE f a = 0
          · exact g
          · rw [if_neg g] at h1'; cases h1'
        have g2 : chgE f b = 0 := by
          by_cases g : chgE f b = 0
          · exact g
          · rw [if_neg g] at h2'; cases h2'
        show ((if chgE f a = 0 then some (updM m a.id (some (chgF f a))) else none).bind (doM b)).isSome = true
        rw [if_pos g1]
        show (doM b _).isSome = true
        rw [key a f m b eb, if_pos g2]; rfl
  · have e : ∀ (m : Int → Option Feat) (p q : OpS) (x : Option Feat), p.id ≠ q.id → doM q (updM m p.id x) = (doX q (m q.id)).map fun y => updM (updM m p.id x) q.id y := fun m p q x hpq => by
      unfold doM; rw [updM_ne _ _ (Ne.symm hpq)]
    refine ⟨fun m => ?_, fun m h1 h2 => ?_⟩
    · show ((doX a (m a.id)).map (updM m a.id)).bind (doM b) = ((doX b (m b.id)).map (updM m b.id)).bind (doM a)
      cases ha : doX a (m a.id) with
      | none =>
        cases hb : doX b (m b.id) with
        | none => rfl
        | some y => show none = doM a (updM m b.id y); rw [e m b a y (Ne.symm hi), ha]; rfl
      | some x =>
        cases hb : doX b (m b.id) with
        | none => show doM b (updM m a.id x) = none; rw [e m a b x hi, hb]; rfl
        | some y =>
          show doM b (updM m a.id x) = doM a (updM m b.id y)
          rw [e m a b x hi, e m b a y (Ne.symm hi), ha, hb]
          show some (updM (updM m a.id x) b.id y) = some (updM (updM m b.id y) a.id x)
          rw [updM_comm m x y hi]
    · have h1' : ((doX a (m a.id)).map (updM m a.id)).isSome = true := h1
      have h2' : ((doX b (m b.id)).map (updM m b.id)).isSome = true := h2
      show (((doX a (m a.id)).map (updM m a.id)).bind (doM b)).isSome = true
      cases ha : doX a (m a.id) with
      | none => rw [ha] at h1'; cases h1'
      | some x =>
        cases hb : doX b (m b.id) with
        | none => rw [hb] at h2'; cases h2'
        | some y =>
          show (doM b (updM m a.id x)).isSome = true
          rw [e m a b x hi, hb]; rfl
def opsM (k : Nat) (o : Nat → OpS) : (Int → Option Feat) → Option (Int → Option Feat) := runP ((List.range k).map fun i => doM (o i))
theorem free_ops {k l : Nat} {o p : Nat → OpS} (h : ∀ i j, i < k → j < l → frO (o i) (p j)) : FreeP (opsM k o) (opsM l p) := by
  unfold opsM
  refine FreeP.run fun g hg => ?_
  obtain ⟨j, hj, rfl⟩ := List.mem_map.1 hg
  refine (FreeP.run fun g hg => ?_).symm
  obtain ⟨i, hi, rfl⟩ := List.mem_map.1 hg
  exact (free_do (h i j (List.mem_range.1 hi) (List.mem_range.1 hj))).symm
theorem do_M {L : List Feat} (hL : asc L) {o : OpS} (ho : opB o = true) (hn : L.length < 300) : doM o (idx L) = if (doL L o).1 = 0 then some (idx (doL L o).2) else none := by
  unfold doM doX doL
  by_cases h1 : o.kd = 1
  · rw [if_pos h1, if_pos h1]
    have hid := op_fid ho h1
    cases hi : idx L o.id with
    | some f => show none = (if (5 : Int) = 0 then _ else _); rw [if_neg (by decide)]
    | none =>
      show some _ = _
      have e : ¬ 300 ≤ L.length := by omega
      simp only [if_neg e, if_true]
      congr 1
      funext k
      rw [idx_put hL, hid]; rfl
  · rw [if_neg h1, if_neg h1]
    cases hi : idx L o.id with
    | none => show none = (if (4 : Int) = 0 then _ else _); rw [if_neg (by decide)]
    | some f =>
      by_cases h2 : o.kd = 2
      · simp only [if_pos h2, if_true]
        show some _ = some _
        congr 1
        funext k
        rw [idx_cut hL]; rfl
      · simp only [if_neg h2]
        by_cases h3 : chgE f o = 0
        · simp only [if_pos h3, if_true]
          show some _ = some _
          congr 1
          funext k
          rw [idx_put (asc_cut hL _), idx_cut hL, chgF_id, (idx_some hi).2]
          unfold updM
          by_cases g : k = o.id
          · rw [if_pos g, if_pos g]
          · rw [if_neg g, if_neg g, if_neg g]
        · simp only [if_neg h3]; rfl
theorem doL_grow {L : List Feat} (hL : asc L) (o : OpS) : (doL L o).2.length ≤ L.length + 1 := by
  have hp : ∀ (K : List Feat) (f : Feat), asc K → (putL K f).length ≤ K.length + 1 := fun K f hK => by
    unfold putL
    rw [List.length_append, List.length_cons]
    have : (K.filter fun g => g.id < f.id).length + (K.filter fun g => f.id < g.id).length ≤ K.length := by
      clear hK hL
      induction K with
      | nil => simp
      | cons g K ih =>
        simp only [List.filter_cons, List.length_cons]
        by_cases h1 : g.id < f.id
        · have h2 : ¬ f.id < g.id := by omega
          simp only [decide_eq_true h1, decide_eq_false h2, if_true, List.length_cons]; simp; omega
        · by_cases h2 : f.id < g.id
          · simp only [decide_eq_false h1, decide_eq_true h2, if_true, List.length_cons]; simp; omega
          · simp only [decide_eq_false h1, decide_eq_false h2]; simp; omega
    omega
  have hc : ∀ (K : List Feat) (k : Int), (cutL K k).length ≤ K.length := fun K k => List.length_filter_le _ _
  unfold doL
  repeat' split
  all_goals first
    | exact Nat.le_succ _
    | exact hp _ _ hL
    | exact Nat.le_trans (hc _ _) (Nat.le_succ _)
    | exact Nat.le_trans (hp _ _ (asc_cut hL _)) (Nat.succ_le_succ (hc _ _))
theorem run_grow {L : List Feat} (hL : asc L) (o : Nat → OpS) : ∀ i, asc (runL L o i) ∧ (runL L o i).length ≤ L.length + i
  | 0 => ⟨hL, Nat.le_refl _⟩
  | i + 1 => by
    have h := run_grow hL o i
    have h2 := doL_grow h.1 (o i)
    exact ⟨doL_asc h.1 (o i), by show (doL (runL L o i) (o i)).2.length ≤ _; omega⟩
theorem ops_M {L : List Feat} (hL : asc L) {o : Nat → OpS} : ∀ (k : Nat), (∀ i, i < k → opB (o i) = true) → L.length + k ≤ 300 → ((∀ i, i < k → (doL (runL L o i) (o i)).1 = 0) → opsM k o (idx L) = some (idx (runL L o k))) ∧ ((∃ i, i < k ∧ (doL (runL L o i) (o i)).1 ≠ 0) → opsM k o (idx L) = none)
  | 0, _, _ => ⟨fun _ => rfl, fun ⟨i, hi, _⟩ => absurd hi (Nat.not_lt_zero i)⟩
  | k + 1, ho, hn => by
    have ih := ops_M hL k (fun i hi => ho i (by omega)) (by omega)
    have hg := run_grow hL o k
    have e : opsM (k + 1) o (idx L) = (opsM k o (idx L)).bind (doM (o k)) := by
      unfold opsM
      rw [List.range_succ, List.map_append, runP_app]
      congr 1
      funext m
      exact bindSm _
    have hd := do_M hg.1 (ho k (Nat.lt_succ_self k)) (by omega)
    refine ⟨fun h => ?_, fun ⟨i, hi, h⟩ => ?_⟩
    · rw [e, ih.1 (fun i hi => h i (by omega))]
      show doM (o k) (idx (runL L o k)) = _
      rw [hd, if_pos (h k (Nat.lt_succ_self k))]; rfl
    · rw [e]
      by_cases hk : ∀ i, i < k → (doL (runL L o i) (o i)).1 = 0
      · rw [ih.1 hk]
        have hik : i = k := by
          rcases Nat.lt_or_ge i k with g | g
          · exact absurd (hk i g) h
          · omega
        subst hik
        show doM (o i) (idx (runL L o i)) = none
        rw [hd, if_neg h]
      · have : ∃ i, i < k ∧ (doL (runL L o i) (o i)).1 ≠ 0 := by
          refine Classical.byContradiction fun g => hk fun i hi => ?_
          exact Classical.byContradiction fun g2 => g ⟨i, hi, g2⟩
        rw [ih.2 this]; rfl
theorem fstB_lo {b : Nat → Bool} : ∀ n j, j < fstB b n → b j = false
  | 0, j, h => by simp [fstB] at h
  | n + 1, j, h => by
    have ih := fstB_lo (b := b) n
    simp only [fstB] at h
    split at h
    · exact ih j h
    · rename_i g
      have hle := fstB_le b n
      have e : fstB b n = n := by omega
      split at h
      · exact ih j (by omega)
      · rename_i g2
        rcases (by omega : j < n ∨ j = n) with q | rfl
        · exact ih j (by omega)
        · simpa using g2
theorem nu_lt {S : Nat → StepS} {m : Nat} (hv : vsB S m = true) {i : Nat} : ∀ {j : Nat}, i < j → j < m → (S i).nu < (S j).nu
  | 0, h, _ => by omega
  | j + 1, h, hj => by
    have h1 := ((of_decide_eq_true hv).2 (j + 1) hj).2.1
    rw [lsN_s] at h1
    rcases (by omega : i < j ∨ i = j) with q | rfl
    · have := nu_lt hv q (by omega : j < m); omega
    · exact h1
theorem ix_nu {S : Nat → StepS} {m : Nat} (hv : vsB S m = true) {t : Nat} (ht : t < m) : ixM S m (S t).nu = t :=
  ix_of ht rfl fun j hj e => by have := nu_lt hv hj ht; omega
theorem ix_get {S : Nat → StepS} {m : Nat} {y : Int} (h : ixM S m y < m) : (S (ixM S m y)).nu = y := by
  have key : ∀ k, fstB (fun i => decide ((S i).nu = y)) k < k → (S (fstB (fun i => decide ((S i).nu = y)) k)).nu = y := by
    intro k
    induction k with
    | zero => intro h; omega
    | succ k ih =>
      intro hk
      simp only [fstB] at hk ⊢
      split
      · rename_i g; exact ih g
      · rename_i g
        rw [if_neg g] at hk
        split
        · rename_i g2; exact of_decide_eq_true g2
        · rename_i g2; rw [if_neg g2] at hk; omega
  exact key m h
theorem ix_a {S : Nat → StepS} {m i u : Nat} (hv : vsB S m = true) (hi : i < m) (hu : u < (S i).q) : ixM S m ((S i).a u) < i := by
  obtain ⟨t, h1, h2⟩ := st_ex hv hi hu
  rw [← h2, ix_nu hv (by omega)]; exact h1
theorem orJ_bit {S : Nat → StepS} {m i : Nat} {P : List Nat} {t : Nat} : ∀ j, (orJ S m i P j).testBit t = true ↔ ∃ u, u < j ∧ (t = ixM S m ((S i).a u) ∨ (P.getD (ixM S m ((S i).a u)) 0).testBit t = true)
  | 0 => by simp [orJ]
  | j + 1 => by
    show (orJ S m i P j ||| (_ ||| 2 ^ _)).testBit t = true ↔ _
    rw [Nat.testBit_or, Bool.or_eq_true, orJ_bit j, Nat.testBit_or, Bool.or_eq_true, Nat.testBit_two_pow, decide_eq_true_eq]
    constructor
    · rintro (⟨u, h1, h2⟩ | h | h)
      · exact ⟨u, by omega, h2⟩
      · exact ⟨j, by omega, Or.inr h⟩
      · exact ⟨j, by omega, Or.inl h.symm⟩
    · rintro ⟨u, h1, h2⟩
      rcases (by omega : u < j ∨ u = j) with q | rfl
      · exact Or.inl ⟨u, q, h2⟩
      · rcases h2 with h2 | h2
        · exact Or.inr (Or.inr h2.symm)
        · exact Or.inr (Or.inl h2)
theorem pst_bit {S : Nat → StepS} {m i t : Nat} (hv : vsB S m = true) (hi : i < m) : (pstN S m i).testBit t = true ↔ ∃ u, u < (S i).q ∧ (t = ixM S m ((S i).a u) ∨ (pstN S m (ixM S m ((S i).a u))).testBit t = true) := by
  have e : pstN S m i = orJ S m i (pstL S m i) (S i).q := by
    rw [← pstL_at S m (Nat.lt_succ_self i) (by omega : i + 1 ≤ m)]
    show (pstL S m i ++ [_]).getD i 0 = _
    rw [getD_r (by rw [pstL_len]; omega), pstL_len, Nat.sub_self]; rfl
  rw [e, orJ_bit]
  constructor <;> rintro ⟨u, h1, h2⟩ <;> refine ⟨u, h1, ?_⟩ <;> have h3 := ix_a hv hi h1
  · rwa [pstL_at S m h3 (by omega)] at h2
  · rwa [pstL_at S m h3 (by omega)]
theorem hit_no {k : Nat} {o : Nat → OpS} {l : Nat} {p : Nat → OpS} (h : comX k o l p < 0) {i j : Nat} (hi : i < k) (hj : j < l) : hitB (o i) (p j) = false := by
  have h1 : ¬ comJ k o l p < k := fun g => by unfold comX at h; rw [if_pos g] at h; omega
  have h2 : comJ k o l p = k := by have := fstB_le (fun i => decide (hitK (o i) l p < l)) k; unfold comJ at h1 ⊢; omega
  have h3 := fstB_lo (b := fun i => decide (hitK (o i) l p < l)) k i (by show i < comJ k o l p; omega)
  have h4 : ¬ hitK (o i) l p < l := of_decide_eq_false h3
  have h5 := fstB_le (fun j => hitB (o i) (p j)) l
  exact fstB_lo (b := fun j => hitB (o i) (p j)) l j (by show j < hitK (o i) l p; unfold hitK at h4 ⊢; omega)
theorem fr_no {x y : OpS} (h : hitB x y = false) : frO x y := by
  have h := of_decide_eq_false h
  unfold frO
  by_cases e : x.id = y.id
  · refine Or.inr ?_
    have h2 : ¬ (x.kd = y.kd ∨ fldB x = false ∨ fldB y = false) := fun g => h ⟨e, g⟩
    have hx : fldB x = true := by cases g : fldB x with
      | true => rfl
      | false => exact absurd (Or.inr (Or.inl g)) h2
    have hy : fldB y = true := by cases g : fldB y with
      | true => rfl
      | false => exact absurd (Or.inr (Or.inr g)) h2
    exact ⟨of_decide_eq_true hx, of_decide_eq_true hy, fun g => h2 (Or.inl g)⟩
  · exact Or.inl e
def stM (x : CaS) (i : Nat) : (Int → Option Feat) → Option (Int → Option Feat) := opsM (x.O i).k (x.O i).o
theorem free_st {x : CaS} {i k : Nat} (h : hitX x i k = false) : FreeP (stM x i) (stM x k) :=
  free_ops fun a b ha hb => fr_no (hit_no (by have := of_decide_eq_false h; omega) ha hb)
theorem foe_bit {x : CaS} (j t : Nat) : (foeN (opL x) j).testBit t = true ↔ (j, t) ∈ opL x ∨ (t, j) ∈ opL x := foeN_bit _ (fun p hp => (opL_mem.1 hp).1) j t
theorem free_lt {x : CaS} {i k : Nat} (hik : i < k) (hk : k < x.m) (hp : (opP x k).testBit i = false) (hf : (foeN (opL x) i).testBit k = false) : FreeP (stM x i) (stM x k) := by
  refine free_st ?_
  cases e : hitX x i k with
  | false => rfl
  | true =>
    have := (foe_bit (x := x) i k).2 (Or.inl (opL_mem.2 ⟨hik, hk, hp, e⟩))
    rw [hf] at this; cases this
def ClosN (x : CaS) (s : Nat) : Prop := ∀ i, s.testBit i = true → ∀ k, (opP x i).testBit k = true → s.testBit k = true
def NoFoe (x : CaS) (s : Nat) : Prop := ∀ i k, s.testBit i = true → s.testBit k = true → (foeN (opL x) i).testBit k = false
def M0 (x : CaS) : Int → Option Feat := idx (LF x.f x.n)
def StandN (x : CaS) (s : Nat) : Prop := ClosN x s ∧ NoFoe x s ∧ (runP ((bl s).map (stM x)) (M0 x)).isSome = true
theorem orL_bit (P : Nat → Nat) (t : Nat) : ∀ (l : List Nat) (a : Nat), (orL P a l).testBit t = true ↔ a.testBit t = true ∨ ∃ i, i ∈ l ∧ (P i).testBit t = true
  | [], a => by simp [orL]
  | i :: l, a => by
    show (orL P (a ||| P i) l).testBit t = true ↔ _
    rw [orL_bit P t l, Nat.testBit_or, Bool.or_eq_true]
    constructor
    · rintro ((h | h) | ⟨j, h1, h2⟩)
      · exact Or.inl h
      · exact Or.inr ⟨i, List.mem_cons_self .., h⟩
      · exact Or.inr ⟨j, List.mem_cons_of_mem _ h1, h2⟩
    · rintro (h | ⟨j, h1, h2⟩)
      · exact Or.inl (Or.inl h)
      · rcases List.mem_cons.1 h1 with rfl | h1
        · exact Or.inl (Or.inr h2)
        · exact Or.inr ⟨j, h1, h2⟩
theorem mem_bl {s i : Nat} (hs : s < 1024) : i ∈ bl s ↔ s.testBit i = true := by
  rw [bl_mem]; exact ⟨fun h => h.2, fun h => ⟨inS_bit (m := 10) hs h, h⟩⟩
theorem clo_bit {P : Nat → Nat} {s : Nat} (hs : s < 1024) (t : Nat) : (cloN P s).testBit t = true ↔ s.testBit t = true ∨ ∃ i, s.testBit i = true ∧ (P i).testBit t = true := by
  rw [cloN_orL, orL_bit]
  constructor
  · rintro (h | ⟨i, h1, h2⟩)
    · exact Or.inl h
    · exact Or.inr ⟨i, (mem_bl hs).1 h1, h2⟩
  · rintro (h | ⟨i, h1, h2⟩)
    · exact Or.inl h
    · exact Or.inr ⟨i, (mem_bl hs).2 h1, h2⟩
theorem clo_eq {x : CaS} (he : cvE x = 0) {s : Nat} (hs : inS x.m s) : cloN (opP x) s = s ↔ ClosN x s := by
  have h10 := inS_lt (cv_ok he).2.2.2.2.1 hs
  constructor
  · intro h i hi k hk
    rw [← h]; exact (clo_bit h10 k).2 (Or.inr ⟨i, hi, hk⟩)
  · intro h
    apply Nat.eq_of_testBit_eq
    intro t
    rw [Bool.eq_iff_iff, clo_bit h10]
    exact ⟨fun g => g.elim id fun ⟨i, h1, h2⟩ => h i h1 t h2, Or.inl⟩
theorem foe_eq {x : CaS} {s : Nat} (hs : s < 1024) : foeB (foeN (opL x)) s = true ↔ NoFoe x s := by
  unfold foeB NoFoe
  rw [decide_eq_true_eq]
  constructor
  · intro h i k hi hk
    have e := h i ((mem_bl hs).2 hi)
    cases g : (foeN (opL x) i).testBit k with
    | false => rfl
    | true =>
      have : (foeN (opL x) i &&& s).testBit k = true := by rw [Nat.testBit_and, g, hk]; rfl
      rw [e] at this; simp at this
  · intro h i hi
    apply Nat.eq_of_testBit_eq
    intro k
    rw [Nat.testBit_and, Nat.zero_testBit]
    cases hk : s.testBit k with
    | false => simp
    | true => rw [h i k ((mem_bl hs).1 hi) hk]; rfl
def sumK (O : Nat → PtS) (l : List Nat) : Nat := (l.map fun i => (O i).k).sum
theorem sumK_perm {O : Nat → PtS} {l m : List Nat} (h : l.Perm m) : sumK O l = sumK O m := by
  induction h with
  | nil => rfl
  | cons a _ ih => show (O a).k + sumK O _ = (O a).k + sumK O _; rw [ih]
  | swap a b l => show (O b).k + ((O a).k + sumK O l) = (O a).k + ((O b).k + sumK O l); omega
  | trans _ _ h1 h2 => rw [h1, h2]
theorem sumK_le {O : Nat → PtS} : ∀ (m : Nat) (l : List Nat), l.Nodup → (∀ i, i ∈ l → i < m) → sumK O l ≤ smK O m
  | 0, l, _, h => by
    cases l with
    | nil => exact Nat.le_refl _
    | cons a l => exact absurd (h a (List.mem_cons_self ..)) (Nat.not_lt_zero a)
  | m + 1, l, hn, h => by
    by_cases hm : m ∈ l
    · have hp := List.perm_cons_erase hm
      have e : sumK O l = (O m).k + sumK O (l.erase m) := sumK_perm hp
      have := sumK_le (O := O) m (l.erase m) (hn.erase m) fun i hi => by
        have h1 := h i (List.mem_of_mem_erase hi)
        have h2 := ((List.Nodup.mem_erase_iff hn).1 hi).1
        omega
      rw [e]; show _ ≤ smK O m + (O m).k; omega
    · have := sumK_le (O := O) m l hn fun i hi => by
        have h1 := h i hi
        have h2 : i ≠ m := fun e => hm (e ▸ hi)
        omega
      exact Nat.le_trans this (Nat.le_add_right _ _)
theorem fea_good {R : List Feat} (h : Good R) : feaB R.length (fun i => R.getD i feat0) = true := by
  refine decide_eq_true ⟨h.n, fun i hi => ⟨?_, fun h0 => ?_⟩⟩
  · simp only [List.getD_eq_getElem?_getD, List.getElem?_eq_getElem hi, Option.getD_some]
    exact h.f _ (List.getElem_mem hi)
  · simp only [List.getD_eq_getElem?_getD, List.getElem?_eq_getElem hi, List.getElem?_eq_getElem (show i - 1 < R.length by omega), Option.getD_some]
    exact List.pairwise_iff_getElem.1 h.a _ _ _ _ (by omega)
theorem LF_getD (R : List Feat) : LF (fun i => R.getD i feat0) R.length = R := by
  apply List.ext_getElem
  · simp [LF]
  · intro i h1 h2
    simp only [LF, List.getElem_map, List.getElem_range, List.getD_eq_getElem?_getD, List.getElem?_eq_getElem h2, Option.getD_some]
theorem step_M {X : FlS} {p : PtS} (hX : feaB X.n X.f = true) (hp : opsB p.k p.o = true) (hn : X.n + p.k ≤ 300) :
    (apX X p = 0 → opsM p.k p.o (idx (LF X.f X.n)) = some (idx (LF (apS X p).f (apS X p).n)) ∧ feaB (apS X p).n (apS X p).f = true ∧ (apS X p).n ≤ X.n + p.k) ∧ (apX X p ≠ 0 → opsM p.k p.o (idx (LF X.f X.n)) = none) := by
  have hG := good_LF hX
  have ho := (of_decide_eq_true hp).2
  have hl : (LF X.f X.n).length = X.n := by rw [LF_len]
  have hM := ops_M hG.a (o := p.o) p.k ho (by rw [hl]; exact hn)
  constructor
  · intro h
    obtain ⟨hv, hd⟩ := ap_eq0 h
    have hg := good_run hG (k := p.k) ho p.k (Nat.le_refl _)
    have e1 := (ap_ok hX hp (i := p.k) (Int.le_refl _) hd).1
    have e2 : LF (apS X p).f (apS X p).n = runL (LF X.f X.n) p.o p.k := by
      show LF (fun i => (runL (LF X.f X.n) p.o p.k).getD i feat0) (apN X.n X.f p.k p.o) = _
      rw [← e1]; exact LF_getD _
    refine ⟨by rw [hM.1 hd, e2], ?_, ?_⟩
    · show feaB (apN X.n X.f p.k p.o) (fun i => (runL (LF X.f X.n) p.o p.k).getD i feat0) = true
      rw [← e1]; exact fea_good hg
    · show apN X.n X.f p.k p.o ≤ _
      rw [← e1]
      have := (run_grow hG.a p.o p.k).2
      rw [hl] at this; exact this
  · intro h
    refine hM.2 ?_
    refine Classical.byContradiction fun g => h ?_
    have hd : ∀ j, j < p.k → (doL (runL (LF X.f X.n) p.o j) (p.o j)).1 = 0 := fun j hj => Classical.byContradiction fun g2 => g ⟨j, hj, g2⟩
    exact (ap_ok hX hp (i := p.k) (Int.le_refl _) hd).2.2.symm
theorem run_M {O : Nat → PtS} : ∀ (l : List Nat) (X : FlS), feaB X.n X.f = true → (∀ i, i ∈ l → opsB (O i).k (O i).o = true) → X.n + sumK O l ≤ 300 →
    (runB O X l = true → runP (l.map fun i => opsM (O i).k (O i).o) (idx (LF X.f X.n)) = some (idx (LF (runF O X l).f (runF O X l).n)) ∧ feaB (runF O X l).n (runF O X l).f = true) ∧ (runB O X l = false → runP (l.map fun i => opsM (O i).k (O i).o) (idx (LF X.f X.n)) = none)
  | [], X, hX, _, _ => ⟨fun _ => ⟨rfl, hX⟩, fun h => by cases h⟩
  | i :: l, X, hX, hO, hn => by
    have hs : sumK O (i :: l) = (O i).k + sumK O l := rfl
    have h1 := step_M (X := X) (p := O i) hX (hO i (List.mem_cons_self ..)) (by omega)
    have eB : runB O X (i :: l) = (decide (apX X (O i) = 0) && runB O (apS X (O i)) l) := rfl
    have eP : runP ((i :: l).map fun i => opsM (O i).k (O i).o) (idx (LF X.f X.n)) = (opsM (O i).k (O i).o (idx (LF X.f X.n))).bind (runP (l.map fun i => opsM (O i).k (O i).o)) := rfl
    rw [eB, eP]
    by_cases h0 : apX X (O i) = 0
    · obtain ⟨g1, g2, g3⟩ := h1.1 h0
      have ih := run_M l (apS X (O i)) g2 (fun j hj => hO j (List.mem_cons_of_mem _ hj)) (by omega)
      rw [g1, decide_eq_true h0, Bool.true_and]
      exact ih
    · rw [h1.2 h0, decide_eq_false h0, Bool.false_and]
      exact ⟨fun h => (by cases h), fun _ => rfl⟩
theorem beh_iff {x : CaS} (he : cvE x = 0) {s : Nat} (hs : inS x.m s) : behB (opY x) s = true ↔ StandN x s := by
  obtain ⟨hv, hf, hmo, hop, hm, hsum⟩ := cv_ok he
  have h10 := inS_lt hm hs
  have hr := run_M (O := x.O) (bl s) (fl0 x) hf (fun i hi => hop i (by have := inS_mem hs hi; omega)) (by
    have := sumK_le (O := x.O) x.m (bl s) (bl_nod s) fun i hi => inS_mem hs hi
    rw [← hmo] at this
    show x.n + _ ≤ 300; omega)
  unfold behB StandN
  show (decide (cloN (opP x) s = s) && foeB (foeN (opL x)) s && runB x.O (fl0 x) (bl s)) = true ↔ _
  rw [Bool.and_eq_true, Bool.and_eq_true, decide_eq_true_eq, clo_eq he hs, foe_eq h10, and_assoc]
  refine and_congr_right fun _ => and_congr_right fun _ => ?_
  show _ ↔ (runP ((bl s).map fun i => opsM (x.O i).k (x.O i).o) (idx (LF x.f x.n))).isSome = true
  cases hb : runB x.O (fl0 x) (bl s) with
  | true => exact ⟨fun _ => by rw [show idx (LF x.f x.n) = idx (LF (fl0 x).f (fl0 x).n) from rfl, (hr.1 hb).1]; rfl, fun _ => rfl⟩
  | false => exact ⟨fun h => (by cases h), fun h => by rw [show idx (LF x.f x.n) = idx (LF (fl0 x).f (fl0 x).n) from rfl, hr.2 hb] at h; cases h⟩
theorem stand_part {x : CaS} (he : cvE x = 0) {s t : Nat} (hs : inS x.m s) (ht : inS x.m t) (h : StandN x s) (hc : ClosN x t) (hsub : ∀ i, t.testBit i = true → s.testBit i = true) : StandN x t := by
  obtain ⟨hv, hf, hmo, hop, hm, hsum⟩ := cv_ok he
  refine ⟨hc, fun i k hi hk => h.2.1 i k (hsub i hi) (hsub k hk), ?_⟩
  have hr := h.2.2
  have hpw : (bl s).Pairwise (fun a b => t.testBit b = true → t.testBit a = false → FreeP (stM x a) (stM x b)) := by
    refine List.Pairwise.imp_of_mem ?_ (bl_lt s)
    intro a b ha hb hab h1 h2
    have ha' := (bl_mem.1 ha).2
    have hb' := (bl_mem.1 hb).2
    refine free_lt hab (inS_bit hs hb') ?_ (h.2.1 a b ha' hb')
    cases e : (opP x b).testBit a with
    | false => rfl
    | true => rw [hc b h1 a e] at h2; cases h2
  rw [run_part (stM x) t.testBit hpw] at hr
  have e : (bl s).filter t.testBit = bl t := by
    unfold bl
    rw [List.filter_filter]
    apply List.filter_congr
    intro i _
    cases g : t.testBit i with
    | false => rfl
    | true => rw [hsub i g]; rfl
  rw [e] at hr
  cases g : runP ((bl t).map (stM x)) (M0 x) with
  | none => rw [g] at hr; cases hr
  | some u => rfl
end Go.Proofs.YtmnejmpjmniiiaaGreatDoor
