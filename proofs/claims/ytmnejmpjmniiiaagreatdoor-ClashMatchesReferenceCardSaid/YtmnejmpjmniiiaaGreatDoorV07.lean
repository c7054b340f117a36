/- Part 7 of 18: contracts of functions and plain laws for the root text. No condition. -/
import Derived.Test.YtmnejmpjmniiiaaGreatDoorV01
import Derived.Test.YtmnejmpjmniiiaaGreatDoorV02
import Derived.Test.YtmnejmpjmniiiaaGreatDoorV03
import Derived.Test.YtmnejmpjmniiiaaGreatDoorV04
import Derived.Test.YtmnejmpjmniiiaaGreatDoorV05
import Derived.Test.YtmnejmpjmniiiaaGreatDoorV06
set_option linter.unusedVariables false
set_option linter.unusedSimpArgs false
set_option linter.unusedSectionVars false
set_option linter.deprecated false
set_option maxRecDepth 100000
set_option maxHeartbeats 4000000
namespace Go.Proofs.YtmnejmpjmniiiaaGreatDoor
open Go.RowKit Go.Sea
open Nat renaming reduceAdd -> xA, reduceLT -> xL, reduceLeDiff -> xD, reduceEqDiff -> xE, reduceMul -> xM, reduceSub -> xS, reduceBEq -> xB
theorem afq : BP Tryz.prog 63 = none := by kernel_rfl
theorem jy : aM Tryz.prog 140 = true := by kernel_rfl
theorem qF : aM Tryz.prog 203 = true := by kernel_rfl
theorem lM : aM Tryz.prog 204 = true := by kernel_rfl
theorem FQ : aM Tryz.prog 206 = true := by kernel_rfl
theorem Bl : aM Tryz.prog 210 = true := by kernel_rfl
theorem GU : aM Tryz.prog 211 = true := by kernel_rfl
theorem qo : aM Tryz.prog 212 = true := by kernel_rfl
theorem yK : aM Tryz.prog 88 = true := by kernel_rfl
theorem aiq : uY Tryz.prog 63 = some true := by kernel_rfl
theorem ae6 : oU Tryz.prog 63 = some (2, 16, 62) := by kernel_rfl
theorem ahv : mU Tryz.prog 62 = some (true, 2) := by kernel_rfl
theorem ahD : eX Tryz.prog 62 = some [.iv (.g (.int .i64 0)), .iv (.g (.int .i64 0))] := by kernel_rfl
attribute [go_sem] afq jy qF lM FQ Bl GU qo yK aiq ae6 ahv ahD
theorem YG (z : Int) : (if z < 0 then (-1 : Int) else if 0 < z then 1 else 0) = Bd z := by
  unfold Bd
  split <;> split <;> first | rfl | omega | (split <;> rfl)
theorem wR (ax ay bx by' cx cy : Int) (ha : dJ ax ay = true) (hb : dJ bx by' = true) (hc : dJ cx cy = true) : au Tryz.prog 204 [.agg [.g (.int .i64 (ax)), .g (.int .i64 (ay))], .agg [.g (.int .i64 (bx)), .g (.int .i64 (by'))], .agg [.g (.int .i64 (cx)), .g (.int .i64 (cy))]] (.t (.one (.g (.int .i64 (Kv ax ay bx by' cx cy))))) := by
  have hA := oP.1 ha
  have hB := oP.1 hb
  have hC := oP.1 hc
  have hX := tN ha hb hc
  refine ah Tryz.func204 rfl (by rw [Tryz.ntmps204]; simp) ?_
  simp only [Tryz.ntmps204, zM, PT.tv, ak, Nat.zero_add, Nat.reduceAdd]
  repeat' (first
 | ((with_reducible show AW _ _ _ _); first
 | (with_reducible first | refine aS (fun K hK => ?_) | refine aT ?_)
 | (first
 | (with_reducible refine aP 0 [0,1,2] ?_)
 | ((with_reducible refine aR (c := Code.region 1 _ true) [3,4,5] ?_); (with_reducible refine aD ?_ ?_ ?_ ?_); (focus kernel_rfl); (focus kernel_rfl); (focus kernel_rfl))))
 | ((first | (with_reducible refine And.intro ?_ ?_) | (with_reducible refine Need.mk ?_)); focus (exact True.intro))
 | (with_reducible refine aA ?_)
 | ((with_reducible refine And.intro ?_ ?_); focus ((with_reducible show fB _ _ _ = true); kernel_rfl))
 | ((with_reducible show dA _ _ _ _ _ _ _ _ _ _ _ _ _); first
 | (refine aV (k := 210) Bl (QI _ _ _ _ ha hb) ?_ ?_)
 | (refine aV (k := 210) Bl (QI _ _ _ _ ha hc) ?_ ?_)
 | (refine aV (k := 211) GU (Yr (bx - ax) (by' - ay) (cx - ax) (cy - ay) hX.1 hX.2) ?_ ?_)
 | (refine aV (k := 88) yK (Ju _ _) ?_ ?_))
 | ((fail_if_success (with_reducible show AW _ _ _ _)); simp (maxSteps := 2000000) only [go_sem, reduceIte, reduceCtorEq, xA, xL, xD, xE, xM, xS, xB, Tryz.f204])
 | ((with_reducible refine hK _ ?_); clear hK K))
  all_goals (exact YG _)
theorem YS (px py ax ay bx by' : Int) (hp : dJ px py = true) (ha : dJ ax ay = true) (hb : dJ bx by' = true) : au Tryz.prog 212 [.agg [.g (.int .i64 (px)), .g (.int .i64 (py))], .agg [.g (.int .i64 (ax)), .g (.int .i64 (ay))], .agg [.g (.int .i64 (bx)), .g (.int .i64 (by'))]] (.t (.one (.g (.bool (Zx px py ax ay bx by'))))) := by
  refine ah Tryz.func212 rfl (by rw [Tryz.ntmps212]; simp) ?_
  simp only [Tryz.ntmps212, zM, PT.tv, ak, Nat.zero_add, Nat.reduceAdd]
  repeat' (first
 | ((with_reducible show AW _ _ _ _); first
 | (with_reducible first | refine aS (fun K hK => ?_) | refine aT ?_)
 | (first
 | (with_reducible first | refine aP 0 [0,1,2] ?_ | refine aP 1 [3,4,5] ?_)))
 | (((with_reducible refine Need.mk ?_)); focus (exact True.intro))
 | (with_reducible refine aA ?_)
 | ((with_reducible show aN _ _ _ _ _ _ _ _ _ _); first
 | (refine aj (k := 204) lM (wR _ _ _ _ _ _ ha hb hp) ?_ ?_))
 | ((fail_if_success (with_reducible show AW _ _ _ _)); simp (maxSteps := 2000000) only [go_sem, reduceIte, reduceCtorEq, xA, xL, xD, xE, xM, xS, xB, Tryz.f212])
 | ((with_reducible refine hK _ ?_); clear hK K))
  all_goals (unfold Zx; (try refine Bool.eq_iff_iff.2 ?_); simp only [Bool.and_eq_true, decide_eq_true_eq, beq_iff_eq]; omega)
theorem VK (ax ay bx by' cx cy dx dy : Int) (qa : dJ ax ay = true) (qb : dJ bx by' = true) (qc : dJ cx cy = true) (qd : dJ dx dy = true) : au Tryz.prog 206 [.agg [.g (.int .i64 (ax)), .g (.int .i64 (ay))], .agg [.g (.int .i64 (bx)), .g (.int .i64 (by'))], .agg [.g (.int .i64 (cx)), .g (.int .i64 (cy))], .agg [.g (.int .i64 (dx)), .g (.int .i64 (dy))]] (.t (.one (.g (.bool (pG ax ay bx by' cx cy dx dy))))) := by
  have t1 := qj ax ay bx by' cx cy
  have t2 := qj ax ay bx by' dx dy
  have t3 := qj cx cy dx dy ax ay
  have t4 := qj cx cy dx dy bx by'
  have m1 := j6 t1 t2
  have m2 := j6 t3 t4
  refine ah Tryz.func206 rfl (by rw [Tryz.ntmps206]; simp) ?_
  simp only [Tryz.ntmps206, zM, PT.tv, ak, Nat.zero_add, Nat.reduceAdd]
  repeat' (first
 | ((with_reducible show AW _ _ _ _); first
 | (with_reducible first | refine aS (fun K hK => ?_) | refine aI ?_ | refine aT ?_ | refine aC ?_)
 | (first
 | (with_reducible refine aP 0 [0,1,2,3] ?_)
 | ((with_reducible refine aR (c := Code.region 1 _ true) [4,5,6,7] ?_); (with_reducible refine aD ?_ ?_ ?_ ?_); (focus kernel_rfl); (focus kernel_rfl); (focus kernel_rfl))
 | (with_reducible first | refine aP 2 [] ?_ | refine aP 3 [4,5,6,7] ?_)))
 | ((first | (with_reducible refine And.intro ?_ ?_) | (with_reducible refine Need.mk ?_)); focus (first | exact True.intro | (intro _; (with_reducible assumption)) | (simp; done)))
 | (with_reducible refine aA ?_)
 | ((with_reducible show aY _ _ _ _ _ _); first
 | ((with_reducible refine aH ?_ ?_) <;> (intro hc; (try simp only [zB, zC, reduceCtorEq] at hc); (try (exfalso; contradiction)))))
 | ((with_reducible refine And.intro ?_ ?_); focus ((with_reducible show fB _ _ _ = true); kernel_rfl))
 | ((with_reducible show dA _ _ _ _ _ _ _ _ _ _ _ _ _); first
 | (refine aV (k := 204) lM (wR _ _ _ _ _ _ qa qb qc) ?_ ?_)
 | (refine aV (k := 204) lM (wR _ _ _ _ _ _ qa qb qd) ?_ ?_))
 | ((with_reducible show jT _ _ _ _ _ _ _ _ _ _ _ _ _); first
 | (refine fZ (k := 204) lM (fun hg => wR _ _ _ _ _ _ qc qd qa) ?_ ?_)
 | (refine fZ (k := 204) lM (fun hg => wR _ _ _ _ _ _ qc qd qb) ?_ ?_))
 | ((with_reducible show aN _ _ _ _ _ _ _ _ _ _); (refine aj (k := 212) qo (YS _ _ _ _ _ _ qa qc qd) ?_ ?_))
 | ((with_reducible show bK _ _ _ _ _ _ _ _ _ _); first
 | (refine aQ (k := 212) qo (fun hg => YS _ _ _ _ _ _ qb qc qd) ?_ ?_)
 | (refine aQ (k := 212) qo (fun hg => YS _ _ _ _ _ _ qc qa qb) ?_ ?_)
 | (refine aQ (k := 212) qo (fun hg => YS _ _ _ _ _ _ qd qa qb) ?_ ?_))
 | ((fail_if_success (with_reducible show AW _ _ _ _)); simp (maxSteps := 2000000) only [go_sem, reduceIte, reduceCtorEq, xA, xL, xD, xE, xM, xS, xB, Tryz.f206])
 | ((fail_if_success (with_reducible show AW _ _ _ _)); simp (disch := omega) only [aJ, dG, dH])
 | ((with_reducible refine hK _ ?_); clear hK K))
  all_goals (unfold pG; first | (rw [decide_eq_true (by assumption)]; rfl) | (rw [decide_eq_false (by omega)]; simp [Bool.or_assoc]))
def bX (P : Nat -> Nat -> Int) (i o : Nat) : IV := .g (.int .i64 (P i o))
def jG (P : Nat -> Nat -> Int) (k : Nat) : Prop := ∀ i, i < k -> dJ (P i 0) (P i 1) = true
instance (P : Nat -> Nat -> Int) (k : Nat) : Decidable (jG P k) := by unfold jG; infer_instance
theorem IE (k : Nat) (P : Nat -> Nat -> Int) (hk : k <= 9223372036854775807) : au Tryz.prog 203 [.one (.lst 2 k (bX P))] (.t (.one (.g (.bool (decide (jG P k)))))) := by
  refine ah Tryz.func203 rfl (by rw [Tryz.ntmps203]; simp) ?_
  simp only [Tryz.ntmps203, zM, PT.tv, ak, Nat.zero_add, Nat.reduceAdd]
  repeat' (first
 | ((with_reducible show AW _ _ _ _); first
 | (with_reducible first | refine aS (fun K hK => ?_) | refine aI ?_ | refine aX ?_ | refine aT ?_ | refine aC ?_ | refine aB ?_)
 | (first
 | (with_reducible first | refine aP 0 [0] ?_ | refine aP 1 [0] ?_ | refine aP 2 [5,6,7] ?_ | refine aP 3 [5,6,7] ?_ | refine aP 4 [4,5,6,7] ?_ | refine aP 5 [] ?_ | refine aP 6 [5,6,7] ?_ | refine aP 7 [] ?_))
 | ((with_reducible show AW _ (Code.loop _) _ _); first
 | ((with_reducible refine aL (c := (Code.seq (Code.region 2 _ _) _)) (ι := Nat) [5,6] (fun i => [(7, iA .i64 (i : Int))]) (fun i => []) (fun i => i <= k /\ jG P i) (fun i => k - i) 0 ?lg2 ?l12 ?l22 ?li2 ?lr2); (case' lg2 => rintro i _); (case' li2 => try (exact ⟨Nat.zero_le _, fun i hi => absurd hi (Nat.not_lt_zero _)⟩)); (case' lr2 => rintro i ⟨hi, hai⟩ KR hR2; simp only [bf, bN, hset, lk, if_true, if_false, xE, reduceIte, zN]))))
 | ((first | (with_reducible refine And.intro ?_ ?_) | (with_reducible refine Need.mk ?_)); focus (first | exact True.intro | omega))
 | (with_reducible refine aA ?_)
 | ((with_reducible show aY _ _ _ _ _ _); first
 | ((with_reducible refine aH ?_ ?_) <;> (intro hc; (try simp only [zB, zC, reduceCtorEq] at hc); (try (exfalso; contradiction)))))
 | ((with_reducible show aN _ _ _ _ _ _ _ _ _ _); first
 | (refine aj (k := 140) jy (xI _ _) ?_ ?_))
 | ((with_reducible refine hR2 _ (i + 1) ?_); (try clear hR2 KR))
 | ((with_reducible refine Told.mk ?_); simp only [go_sem, reduceIte, reduceCtorEq, xA, xL, xD, xE, xM, xS, xB, bX] <;> ((((try simp (disch := omega) only [aJ, Int.natCast_add, Int.cast_ofNat_Int, and_true, true_and, and_self]); (repeat' (first | omega | (with_reducible refine And.intro ?_ ?_) | (exact all_succ (by assumption) (by assumption)) )); done))))
 | ((fail_if_success (with_reducible show AW _ _ _ _)); simp (maxSteps := 2000000) only [go_sem, reduceIte, reduceCtorEq, xA, xL, xD, xE, xM, xS, xB, Tryz.f203, bX])
 | ((with_reducible refine hK _ ?_); clear hK K)
 | (with_reducible apply_assumption -exfalso only [*]))
  all_goals (first | exact (decide_eq_false fun h => by have := h i (by omega); simp_all).symm | exact (decide_eq_true fun j hj => hai j (by omega)).symm)
def f3 (a b c d e f : Int) (i o : Nat) : Int := if i = 0 then (if o = 0 then a else b) else if i = 1 then (if o = 0 then c else d) else (if o = 0 then e else f)
def f4 (a b c d e f g h : Int) (i o : Nat) : Int := if i = 0 then (if o = 0 then a else b) else if i = 1 then (if o = 0 then c else d) else if i = 2 then (if o = 0 then e else f) else (if o = 0 then g else h)
theorem ajA (a b c d e f : Int) : decide (jG (f3 a b c d e f) 3) = (dJ a b && dJ c d && dJ e f) := by
  refine Bool.eq_iff_iff.2 ?_
  simp only [Bool.and_eq_true, decide_eq_true_eq]
  constructor
  · intro h; exact ⟨⟨h 0 (by omega), h 1 (by omega)⟩, h 2 (by omega)⟩
  · rintro ⟨⟨h0, h1⟩, h2⟩ i hi
    rcases i with _ | _ | _ | i <;> first | exact h0 | exact h1 | exact h2 | omega
theorem aji (a b c d e f g h : Int) : decide (jG (f4 a b c d e f g h) 4) = (dJ a b && dJ c d && dJ e f && dJ g h) := by
  refine Bool.eq_iff_iff.2 ?_
  simp only [Bool.and_eq_true, decide_eq_true_eq]
  constructor
  · intro h; exact ⟨⟨⟨h 0 (by omega), h 1 (by omega)⟩, h 2 (by omega)⟩, h 3 (by omega)⟩
  · rintro ⟨⟨⟨h0, h1⟩, h2⟩, h3⟩ i hi
    rcases i with _ | _ | _ | _ | i <;> first | exact h0 | exact h1 | exact h2 | exact h3 | omega
theorem aic (a b c d e f : Int) {F : Nat -> Nat -> IV} (hF : ∀ i o, i < 3 -> o < 2 -> (F i o).eqv (bX (f3 a b c d e f) i o)) : au Tryz.prog 203 [.one (.lst 2 3 F)] (.t (.one (.g (.bool (dJ a b && dJ c d && dJ e f))))) := by
  have h := IE 3 (f3 a b c d e f) (by omega)
  rw [ajA] at h
  exact h.eqv ⟨⟨rfl, rfl, hF⟩, trivial⟩ (PV.aG _)
theorem agU (a b c d e f g k : Int) {F : Nat -> Nat -> IV} (hF : ∀ i o, i < 4 -> o < 2 -> (F i o).eqv (bX (f4 a b c d e f g k) i o)) : au Tryz.prog 203 [.one (.lst 2 4 F)] (.t (.one (.g (.bool (dJ a b && dJ c d && dJ e f && dJ g k))))) := by
  have h := IE 4 (f4 a b c d e f g k) (by omega)
  rw [aji] at h
  exact h.eqv ⟨⟨rfl, rfl, hF⟩, trivial⟩ (PV.aG _)
def tvV (ax ay bx by' cx cy : Int) : Int := if (dJ ax ay && dJ bx by' && dJ cx cy) = true then Kv ax ay bx by' cx cy else 0
def tvE (ax ay bx by' cx cy : Int) : Int := if (dJ ax ay && dJ bx by' && dJ cx cy) = true then 0 else 1
theorem Yo (ax ay bx by' cx cy : Int) (hv : (dJ ax ay && dJ bx by' && dJ cx cy) = true) : au Tryz.prog 190 [.agg [.g (.int .i64 (ax)), .g (.int .i64 (ay))], .agg [.g (.int .i64 (bx)), .g (.int .i64 (by'))], .agg [.g (.int .i64 (cx)), .g (.int .i64 (cy))]] (.tup [.one (.g (.int .i64 (Kv ax ay bx by' cx cy))), .one (.g (.int .i64 (0)))]) := by
  have q1 : dJ ax ay = true := by simp only [Bool.and_eq_true] at hv; exact hv.1.1
  have q2 : dJ bx by' = true := by simp only [Bool.and_eq_true] at hv; exact hv.1.2
  have q3 : dJ cx cy = true := by simp only [Bool.and_eq_true] at hv; exact hv.2
  refine ah Tryz.func190 rfl (by rw [Tryz.ntmps190]; simp) ?_
  simp only [Tryz.ntmps190, zM, PT.tv, ak, Nat.zero_add, Nat.reduceAdd]
  repeat' (first
 | ((with_reducible show aN _ _ _ _ _ _ _ _ _ _); first
 | ((refine aj (k := 203) qF (aic ax ay bx by' cx cy ?_) ?_ ?_); (focus (intro i o hi ho; rcases i with _ | _ | _ | _ | i <;> first | omega | (rcases o with _ | _ | o <;> first | omega | exact IV.aG _))))
 | (refine aj (k := 204) lM (wR _ _ _ _ _ _ q1 q2 q3) ?_ ?_))
 | ((with_reducible show AW _ _ _ _); first
 | (with_reducible first | refine aS (fun K hK => ?_) | refine aI ?_ | refine aT ?_ | refine aC ?_)
 | (first
 | (with_reducible first | refine aP 0 [0,1,2] ?_ | refine aP 1 [3,4,5] ?_ | refine aP 3 [3,4,5] ?_)))
 | (((with_reducible refine Need.mk ?_)); focus (exact True.intro))
 | (with_reducible refine aA ?_)
 | ((with_reducible show aY _ _ _ _ _ _); first
 | ((with_reducible refine aH ?_ ?_) <;> (intro hc; (try simp only [zB, zC, reduceCtorEq] at hc); (try (exfalso; contradiction)))))
 | ((fail_if_success (with_reducible show AW _ _ _ _)); simp (maxSteps := 2000000) only [go_sem, reduceIte, reduceCtorEq, xA, xL, xD, xE, xM, xS, xB, Tryz.f190, hv, Bool.not_true])
 | ((with_reducible refine hK _ ?_); clear hK K))
theorem YC (ax ay bx by' cx cy : Int) (hv : (dJ ax ay && dJ bx by' && dJ cx cy) = false) : au Tryz.prog 190 [.agg [.g (.int .i64 (ax)), .g (.int .i64 (ay))], .agg [.g (.int .i64 (bx)), .g (.int .i64 (by'))], .agg [.g (.int .i64 (cx)), .g (.int .i64 (cy))]] (.tup [.one (.g (.int .i64 (0))), .one (.g (.int .i64 (1)))]) := by
  refine ah Tryz.func190 rfl (by rw [Tryz.ntmps190]; simp) ?_
  simp only [Tryz.ntmps190, zM, PT.tv, ak, Nat.zero_add, Nat.reduceAdd]
  repeat' (first
 | ((with_reducible show aN _ _ _ _ _ _ _ _ _ _); first
 | ((refine aj (k := 203) qF (aic ax ay bx by' cx cy ?_) ?_ ?_); (focus (intro i o hi ho; rcases i with _ | _ | _ | _ | i <;> first | omega | (rcases o with _ | _ | o <;> first | omega | exact IV.aG _)))))
 | ((with_reducible show AW _ _ _ _); first
 | (with_reducible first | refine aS (fun K hK => ?_) | refine aT ?_ | refine aC ?_)
 | (first
 | (with_reducible first | refine aP 0 [0,1,2] ?_ | refine aP 1 [3,4,5] ?_ | refine aP 2 [] ?_)))
 | (((with_reducible refine Need.mk ?_)); focus (exact True.intro))
 | (with_reducible refine aA ?_)
 | ((with_reducible show aY _ _ _ _ _ _); first
 | ((with_reducible refine aH ?_ ?_) <;> (intro hc; (try simp only [zB, zC, reduceCtorEq] at hc); (try (exfalso; contradiction)))))
 | ((fail_if_success (with_reducible show AW _ _ _ _)); simp (maxSteps := 2000000) only [go_sem, reduceIte, reduceCtorEq, xA, xL, xD, xE, xM, xS, xB, Tryz.f190, hv, Bool.not_false])
 | ((with_reducible refine hK _ ?_); clear hK K))
theorem adz (ax ay bx by' cx cy : Int) : au Tryz.prog 190 [.agg [.g (.int .i64 (ax)), .g (.int .i64 (ay))], .agg [.g (.int .i64 (bx)), .g (.int .i64 (by'))], .agg [.g (.int .i64 (cx)), .g (.int .i64 (cy))]] (.tup [.one (.g (.int .i64 (tvV ax ay bx by' cx cy))), .one (.g (.int .i64 (tvE ax ay bx by' cx cy)))]) := by
  unfold tvV tvE
  cases hv : (dJ ax ay && dJ bx by' && dJ cx cy) with
  | true => exact Yo ax ay bx by' cx cy hv
  | false => exact YC ax ay bx by' cx cy hv
def mvB (ax ay bx by' cx cy dx dy : Int) : Bool := if (dJ ax ay && dJ bx by' && dJ cx cy && dJ dx dy) = true then pG ax ay bx by' cx cy dx dy else false
def Rl (ax ay bx by' cx cy dx dy : Int) : Int := if (dJ ax ay && dJ bx by' && dJ cx cy && dJ dx dy) = true then 0 else 1
theorem VI (ax ay bx by' cx cy dx dy : Int) (hv : (dJ ax ay && dJ bx by' && dJ cx cy && dJ dx dy) = true) : au Tryz.prog 192 [.agg [.g (.int .i64 (ax)), .g (.int .i64 (ay))], .agg [.g (.int .i64 (bx)), .g (.int .i64 (by'))], .agg [.g (.int .i64 (cx)), .g (.int .i64 (cy))], .agg [.g (.int .i64 (dx)), .g (.int .i64 (dy))]] (.tup [.one (.g (.bool (pG ax ay bx by' cx cy dx dy))), .one (.g (.int .i64 (0)))]) := by
  simp only [Bool.and_eq_true] at hv
  obtain ⟨⟨⟨q1, q2⟩, q3⟩, q4⟩ := hv
  have hv : (dJ ax ay && dJ bx by' && dJ cx cy && dJ dx dy) = true := by rw [q1, q2, q3, q4]; rfl
  refine ah Tryz.func192 rfl (by rw [Tryz.ntmps192]; simp) ?_
  simp only [Tryz.ntmps192, zM, PT.tv, ak, Nat.zero_add, Nat.reduceAdd]
  repeat' (first
 | ((with_reducible show aN _ _ _ _ _ _ _ _ _ _); first
 | ((refine aj (k := 203) qF (agU ax ay bx by' cx cy dx dy ?_) ?_ ?_); (focus (intro i o hi ho; rcases i with _ | _ | _ | _ | i <;> first | omega | (rcases o with _ | _ | o <;> first | omega | exact IV.aG _))))
 | (refine aj (k := 206) FQ (VK _ _ _ _ _ _ _ _ q1 q2 q3 q4) ?_ ?_))
 | ((with_reducible show AW _ _ _ _); first
 | (with_reducible first | refine aS (fun K hK => ?_) | refine aI ?_ | refine aT ?_ | refine aC ?_)
 | (first
 | (with_reducible first | refine aP 0 [0,1,2,3] ?_ | refine aP 1 [4,5,6,7] ?_ | refine aP 3 [4,5,6,7] ?_)))
 | (((with_reducible refine Need.mk ?_)); focus (exact True.intro))
 | (with_reducible refine aA ?_)
 | ((with_reducible show aY _ _ _ _ _ _); first
 | ((with_reducible refine aH ?_ ?_) <;> (intro hc; (try simp only [zB, zC, reduceCtorEq] at hc); (try (exfalso; contradiction)))))
 | ((fail_if_success (with_reducible show AW _ _ _ _)); simp (maxSteps := 2000000) only [go_sem, reduceIte, reduceCtorEq, xA, xL, xD, xE, xM, xS, xB, Tryz.f192, hv, Bool.not_true])
 | ((with_reducible refine hK _ ?_); clear hK K))
theorem Xy (ax ay bx by' cx cy dx dy : Int) (hv : (dJ ax ay && dJ bx by' && dJ cx cy && dJ dx dy) = false) : au Tryz.prog 192 [.agg [.g (.int .i64 (ax)), .g (.int .i64 (ay))], .agg [.g (.int .i64 (bx)), .g (.int .i64 (by'))], .agg [.g (.int .i64 (cx)), .g (.int .i64 (cy))], .agg [.g (.int .i64 (dx)), .g (.int .i64 (dy))]] (.tup [.one (.g (.bool false)), .one (.g (.int .i64 (1)))]) := by
  refine ah Tryz.func192 rfl (by rw [Tryz.ntmps192]; simp) ?_
  simp only [Tryz.ntmps192, zM, PT.tv, ak, Nat.zero_add, Nat.reduceAdd]
  repeat' (first
 | ((with_reducible show aN _ _ _ _ _ _ _ _ _ _); first
 | ((refine aj (k := 203) qF (agU ax ay bx by' cx cy dx dy ?_) ?_ ?_); (focus (intro i o hi ho; rcases i with _ | _ | _ | _ | i <;> first | omega | (rcases o with _ | _ | o <;> first | omega | exact IV.aG _)))))
 | ((with_reducible show AW _ _ _ _); first
 | (with_reducible first | refine aS (fun K hK => ?_) | refine aT ?_ | refine aC ?_)
 | (first
 | (with_reducible first | refine aP 0 [0,1,2,3] ?_ | refine aP 1 [4,5,6,7] ?_ | refine aP 2 [] ?_)))
 | (((with_reducible refine Need.mk ?_)); focus (exact True.intro))
 | (with_reducible refine aA ?_)
 | ((with_reducible show aY _ _ _ _ _ _); first
 | ((with_reducible refine aH ?_ ?_) <;> (intro hc; (try simp only [zB, zC, reduceCtorEq] at hc); (try (exfalso; contradiction)))))
 | ((fail_if_success (with_reducible show AW _ _ _ _)); simp (maxSteps := 2000000) only [go_sem, reduceIte, reduceCtorEq, xA, xL, xD, xE, xM, xS, xB, Tryz.f192, hv, Bool.not_false])
 | ((with_reducible refine hK _ ?_); clear hK K))
theorem abx (ax ay bx by' cx cy dx dy : Int) : au Tryz.prog 192 [.agg [.g (.int .i64 (ax)), .g (.int .i64 (ay))], .agg [.g (.int .i64 (bx)), .g (.int .i64 (by'))], .agg [.g (.int .i64 (cx)), .g (.int .i64 (cy))], .agg [.g (.int .i64 (dx)), .g (.int .i64 (dy))]] (.tup [.one (.g (.bool (mvB ax ay bx by' cx cy dx dy))), .one (.g (.int .i64 (Rl ax ay bx by' cx cy dx dy)))]) := by
  unfold mvB Rl
  cases hv : (dJ ax ay && dJ bx by' && dJ cx cy && dJ dx dy) with
  | true => exact VI ax ay bx by' cx cy dx dy hv
  | false => exact Xy ax ay bx by' cx cy dx dy hv
end Go.Proofs.YtmnejmpjmniiiaaGreatDoor
set_option maxRecDepth 100000
set_option maxHeartbeats 4000000
namespace Go.Proofs.YtmnejmpjmniiiaaGreatDoor
open Go.RowKit Go.Sea
open Nat renaming reduceAdd -> xA, reduceLT -> xL, reduceLeDiff -> xD, reduceEqDiff -> xE, reduceMul -> xM, reduceSub -> xS, reduceBEq -> xB
theorem acP : Xq Tryz.prog 189 = false := by kernel_rfl
theorem aje : Xq Tryz.prog 4 = true := by kernel_rfl
theorem adQ : ZN Tryz.prog 189 = some (true, [.int .i64, .int .i64]) := by kernel_rfl
theorem uV : aM Tryz.prog 186 = true := by kernel_rfl
theorem qJ : aM Tryz.prog 187 = true := by kernel_rfl
theorem vC : aM Tryz.prog 207 = true := by kernel_rfl
theorem FP : aM Tryz.prog 208 = true := by kernel_rfl
theorem aa9 : fF Tryz.prog 189 = true := by kernel_rfl
theorem ahJ : fF Tryz.prog 62 = true := by kernel_rfl
theorem Tc : dB Tryz.prog 189 0 = some 0 := by kernel_rfl
theorem UR : dB Tryz.prog 189 1 = some 1 := by kernel_rfl
theorem XO : cZ Tryz.prog 62 0 = some (0, 1) := by kernel_rfl
theorem Yx : cZ Tryz.prog 62 1 = some (1, 1) := by kernel_rfl
theorem abw : mU Tryz.prog 189 = some (true, 2) := by kernel_rfl
theorem ab0 : eX Tryz.prog 189 = some [.iv (.g (.int .i64 0)), .iv (.g (.int .i64 0))] := by kernel_rfl
attribute [go_sem] acP aje adQ uV qJ vC FP aa9 ahJ Tc UR XO Yx abw ab0
theorem pQ {M x y u v : Int} (h : (-M <= x /\ x <= M) /\ (-M <= y /\ y <= M)) (g : (-M <= u /\ u <= M) /\ (-M <= v /\ v <= M)) : (-(M * M) <= x * v /\ x * v <= M * M) /\ (-(M * M) <= y * u /\ y * u <= M * M) /\ (-(M * M) <= x * u /\ x * u <= M * M) /\ (-(M * M) <= y * v /\ y * v <= M * M) :=
  ⟨j6 h.1 g.2, j6 h.2 g.1, j6 h.1 g.1, j6 h.2 g.2⟩
def f2 (a b : Int) (i o : Nat) : IV := .g (.int .i64 (if i = 0 then a else b))
theorem LY (z : Int) : au Tryz.prog 181 [.one (.g (.int .i64 (z)))] (.t (.one (.g (.int .i64 (Bd z))))) := by
  refine ah Tryz.func181 rfl (by rw [Tryz.ntmps181]; simp) ?_
  simp only [Tryz.ntmps181, zM, PT.tv, ak, Nat.zero_add, Nat.reduceAdd]
  repeat' (first
 | ((with_reducible show AW _ _ _ _); first
 | (with_reducible first | refine aS (fun K hK => ?_) | refine aI ?_ | refine aT ?_ | refine aC ?_)
 | (first
 | (with_reducible first | refine aP 0 [0] ?_ | refine aP 1 [0] ?_ | refine aP 2 [] ?_ | refine aP 3 [0] ?_ | refine aP 4 [] ?_ | refine aP 5 [] ?_)))
 | (with_reducible refine aA ?_)
 | ((with_reducible show aY _ _ _ _ _ _); first
 | ((with_reducible refine aH ?_ ?_) <;> (intro hc; (try simp only [zB, zC, reduceCtorEq] at hc); (try (exfalso; contradiction)))))
 | ((fail_if_success (with_reducible show AW _ _ _ _)); simp (maxSteps := 2000000) only [go_sem, reduceIte, reduceCtorEq, xA, xL, xD, xE, xM, xS, xB, Tryz.f181])
 | ((with_reducible refine hK _ ?_); clear hK K))
  all_goals (first | (unfold Bd; simp_all; done) | (unfold Bd; split <;> omega))
theorem lH (x y u v : Int) (h1 : -4000000000000 <= x * v /\ x * v <= 4000000000000) (h2 : -4000000000000 <= y * u /\ y * u <= 4000000000000) : au Tryz.prog 182 [.agg [.g (.int .i64 (x)), .g (.int .i64 (y))], .agg [.g (.int .i64 (u)), .g (.int .i64 (v))]] (.t (.one (.g (.int .i64 (x * v - y * u))))) := by
  refine ah Tryz.func182 rfl (by rw [Tryz.ntmps182]; simp) ?_
  simp only [Tryz.ntmps182, zM, PT.tv, ak, Nat.zero_add, Nat.reduceAdd]
  repeat' (first
 | ((with_reducible show AW _ _ _ _); first
 | (with_reducible first | refine aS (fun K hK => ?_) | refine aT ?_)
 | (first
 | (with_reducible first | refine aP 0 [0,1] ?_ | refine aP 1 [2,3] ?_)))
 | (with_reducible refine aA ?_)
 | ((fail_if_success (with_reducible show AW _ _ _ _)); simp (maxSteps := 2000000) only [go_sem, reduceIte, reduceCtorEq, xA, xL, xD, xE, xM, xS, xB, Tryz.f182])
 | ((fail_if_success (with_reducible show AW _ _ _ _)); simp (disch := omega) only [aJ, dG, dH])
 | ((with_reducible refine hK _ ?_); clear hK K))
theorem qX (x y u v : Int) (h1 : -4000000000000 <= x * v /\ x * v <= 4000000000000) (h2 : -4000000000000 <= y * u /\ y * u <= 4000000000000) : au Tryz.prog 187 [.agg [.g (.int .i64 (x)), .g (.int .i64 (y))], .agg [.g (.int .i64 (u)), .g (.int .i64 (v))]] (.t (.one (.g (.int .i64 (x * v - y * u))))) := by
  refine ah Tryz.func187 rfl (by rw [Tryz.ntmps187]; simp) ?_
  simp only [Tryz.ntmps187, zM, PT.tv, ak, Nat.zero_add, Nat.reduceAdd]
  repeat' (first
 | ((with_reducible show AW _ _ _ _); first
 | (with_reducible first | refine aS (fun K hK => ?_) | refine aT ?_)
 | (first
 | (with_reducible first | refine aP 0 [0,1] ?_ | refine aP 1 [2,3] ?_)))
 | (with_reducible refine aA ?_)
 | ((fail_if_success (with_reducible show AW _ _ _ _)); simp (maxSteps := 2000000) only [go_sem, reduceIte, reduceCtorEq, xA, xL, xD, xE, xM, xS, xB, Tryz.f187])
 | ((fail_if_success (with_reducible show AW _ _ _ _)); simp (disch := omega) only [aJ, dG, dH])
 | ((with_reducible refine hK _ ?_); clear hK K))
theorem Sl (x y u v : Int) (h1 : -4000000000000 <= x * v /\ x * v <= 4000000000000) (h2 : -4000000000000 <= y * u /\ y * u <= 4000000000000) : au Tryz.prog 208 [.agg [.g (.int .i64 (x)), .g (.int .i64 (y))], .agg [.g (.int .i64 (u)), .g (.int .i64 (v))]] (.t (.one (.g (.int .i64 (x * v - y * u))))) := by
  refine ah Tryz.func208 rfl (by rw [Tryz.ntmps208]; simp) ?_
  simp only [Tryz.ntmps208, zM, PT.tv, ak, Nat.zero_add, Nat.reduceAdd]
  repeat' (first
 | ((with_reducible show AW _ _ _ _); first
 | (with_reducible first | refine aS (fun K hK => ?_) | refine aT ?_)
 | (first
 | (with_reducible first | refine aP 0 [0,1] ?_ | refine aP 1 [2,3] ?_)))
 | (with_reducible refine aA ?_)
 | ((fail_if_success (with_reducible show AW _ _ _ _)); simp (maxSteps := 2000000) only [go_sem, reduceIte, reduceCtorEq, xA, xL, xD, xE, xM, xS, xB, Tryz.f208])
 | ((fail_if_success (with_reducible show AW _ _ _ _)); simp (disch := omega) only [aJ, dG, dH])
 | ((with_reducible refine hK _ ?_); clear hK K))
theorem iZ (x y u v : Int) (h1 : (-1000000 <= x /\ x <= 1000000) /\ (-1000000 <= y /\ y <= 1000000)) (h2 : (-1000000 <= u /\ u <= 1000000) /\ (-1000000 <= v /\ v <= 1000000)) : au Tryz.prog 183 [.agg [.g (.int .i64 (x)), .g (.int .i64 (y))], .agg [.g (.int .i64 (u)), .g (.int .i64 (v))]] (.t (.agg [.g (.int .i64 (x - u)), .g (.int .i64 (y - v))])) := by
  refine ah Tryz.func183 rfl (by rw [Tryz.ntmps183]; simp) ?_
  simp only [Tryz.ntmps183, zM, PT.tv, ak, Nat.zero_add, Nat.reduceAdd]
  repeat' (first
 | ((with_reducible show AW _ _ _ _); first
 | (with_reducible first | refine aS (fun K hK => ?_) | refine aT ?_)
 | (first
 | (with_reducible first | refine aP 0 [0,1] ?_ | refine aP 1 [2,3,4] ?_)))
 | (with_reducible refine aA ?_)
 | ((fail_if_success (with_reducible show AW _ _ _ _)); simp (maxSteps := 2000000) only [go_sem, reduceIte, reduceCtorEq, xA, xL, xD, xE, xM, xS, xB, Tryz.f183])
 | ((fail_if_success (with_reducible show AW _ _ _ _)); simp (disch := omega) only [aJ, dG, dH])
 | ((with_reducible refine hK _ ?_); clear hK K))
theorem Fe (x y : Int) : au Tryz.prog 207 [.agg [.g (.int .i64 (x)), .g (.int .i64 (y))]] (.t (.one (.g (.bool (decide (0 < y \/ (y = 0 /\ 0 < x))))))) := by
  refine ah Tryz.func207 rfl (by rw [Tryz.ntmps207]; simp) ?_
  simp only [Tryz.ntmps207, zM, PT.tv, ak, Nat.zero_add, Nat.reduceAdd]
  repeat' (first
 | ((with_reducible show AW _ _ _ _); first
 | (with_reducible first | refine aS (fun K hK => ?_) | refine aT ?_)
 | (first
 | (with_reducible first | refine aP 0 [0] ?_ | refine aP 1 [1] ?_)))
 | (((with_reducible refine And.intro ?_ ?_)); focus (first | (simp; done) | (simp; omega)))
 | (with_reducible refine aA ?_)
 | ((fail_if_success (with_reducible show AW _ _ _ _)); simp (maxSteps := 2000000) only [go_sem, reduceIte, reduceCtorEq, xA, xL, xD, xE, xM, xS, xB, Tryz.f207])
 | ((with_reducible refine hK _ ?_); clear hK K))
  all_goals ((try refine Bool.eq_iff_iff.2 ?_); (simp only [Bool.and_eq_true, Bool.or_eq_true, Bool.not_eq_true', decide_eq_true_eq, decide_eq_false_iff_not, bne_iff_ne, beq_iff_eq, ne_eq, ge_iff_le, gt_iff_lt, cond_eq_ite, iff_self, eq_self]; done))
def kD (x y : Int) : Bool := decide (((-1000000 <= x /\ x <= 1000000) /\ (-1000000 <= y /\ y <= 1000000)) /\ ¬ (x = 0 /\ y = 0))
theorem Zz (x y : Int) : au Tryz.prog 193 [.agg [.g (.int .i64 (x)), .g (.int .i64 (y))]] (.t (.one (.g (.bool (kD x y))))) := by
  refine ah Tryz.func193 rfl (by rw [Tryz.ntmps193]; simp) ?_
  simp only [Tryz.ntmps193, zM, PT.tv, ak, Nat.zero_add, Nat.reduceAdd]
  repeat' (first
 | ((with_reducible show AW _ _ _ _); first
 | (with_reducible first | refine aS (fun K hK => ?_) | refine aT ?_)
 | (first
 | (with_reducible first | refine aP 0 [0] ?_ | refine aP 1 [1] ?_)))
 | (with_reducible refine aA ?_)
 | ((fail_if_success (with_reducible show AW _ _ _ _)); simp (maxSteps := 2000000) only [go_sem, reduceIte, reduceCtorEq, xA, xL, xD, xE, xM, xS, xB, Tryz.f193, kD])
 | ((with_reducible refine hK _ ?_); clear hK K))
  all_goals ((refine Bool.eq_iff_iff.2 ?_; simp only [Bool.and_eq_true, Bool.not_eq_true', Bool.and_eq_false_iff, beq_eq_false_iff_ne, decide_eq_true_eq, ne_eq, ge_iff_le]; omega))
theorem Qj (x y : Int) : au Tryz.prog 185 [.agg [.g (.int .i64 (x)), .g (.int .i64 (y))]] (.t (.one (.g (.bool (kD x y))))) := by
  refine ah Tryz.func185 rfl (by rw [Tryz.ntmps185]; simp) ?_
  simp only [Tryz.ntmps185, zM, PT.tv, ak, Nat.zero_add, Nat.reduceAdd]
  repeat' (first
 | ((with_reducible show AW _ _ _ _); first
 | (with_reducible first | refine aS (fun K hK => ?_) | refine aT ?_)
 | (first
 | (with_reducible first | refine aP 0 [0] ?_ | refine aP 1 [1] ?_)))
 | (((with_reducible refine And.intro ?_ ?_)); focus ((simp; omega)))
 | (with_reducible refine aA ?_)
 | ((fail_if_success (with_reducible show AW _ _ _ _)); simp (maxSteps := 2000000) only [go_sem, reduceIte, reduceCtorEq, xA, xL, xD, xE, xM, xS, xB, Tryz.f185, kD])
 | ((with_reducible refine hK _ ?_); clear hK K))
  all_goals ((try refine Bool.eq_iff_iff.2 ?_); (simp only [Bool.and_eq_true, Bool.or_eq_true, Bool.not_eq_true', decide_eq_true_eq, decide_eq_false_iff_not, bne_iff_ne, beq_iff_eq, ne_eq, ge_iff_le, gt_iff_lt, cond_eq_ite, iff_self, eq_self]; omega))
theorem VP (x y u v : Int) : au Tryz.prog 152 [.agg [.g (.int .i64 (x)), .g (.int .i64 (y))], .agg [.g (.int .i64 (u)), .g (.int .i64 (v))]] (.t (.one (.g (.bool (decide (x < u \/ (x = u /\ y < v))))))) := by
  refine ah Tryz.func152 rfl (by rw [Tryz.ntmps152]; simp) ?_
  simp only [Tryz.ntmps152, zM, PT.tv, ak, Nat.zero_add, Nat.reduceAdd]
  repeat' (first
 | ((with_reducible show AW _ _ _ _); first
 | (with_reducible first | refine aS (fun K hK => ?_) | refine aT ?_)
 | (first
 | (with_reducible first | refine aP 0 [0,1] ?_ | refine aP 1 [2,3] ?_)))
 | (((with_reducible refine And.intro ?_ ?_)); focus (first | (simp; done) | (simp; omega)))
 | (with_reducible refine aA ?_)
 | ((fail_if_success (with_reducible show AW _ _ _ _)); simp (maxSteps := 2000000) only [go_sem, reduceIte, reduceCtorEq, xA, xL, xD, xE, xM, xS, xB, Tryz.f152])
 | ((with_reducible refine hK _ ?_); clear hK K))
  all_goals ((try refine Bool.eq_iff_iff.2 ?_); (simp only [Bool.and_eq_true, Bool.or_eq_true, Bool.not_eq_true', decide_eq_true_eq, decide_eq_false_iff_not, bne_iff_ne, beq_iff_eq, ne_eq, ge_iff_le, gt_iff_lt, cond_eq_ite, iff_self, eq_self]; done))
def vY (x y : Int) : Bool := decide (0 < y \/ (y = 0 /\ 0 < x))
def sK (x y u v : Int) : Int := if vY x y = vY u v then - Bd (x * v - y * u) else if vY x y = true then -1 else 1
theorem abq (x y u v : Int) : sK x y u v = -1 \/ sK x y u v = 0 \/ sK x y u v = 1 := by
  unfold sK
  have := Zo (x * v - y * u)
  split <;> first | omega | (split <;> omega)
def Ic (fx fy tx ty vx vy : Int) : Bool := if sK fx fy tx ty = -1 then decide (sK fx fy vx vy <= 0) && !decide (sK tx ty vx vy <= 0) else if sK fx fy tx ty = 1 then decide (sK fx fy vx vy <= 0) || !decide (sK tx ty vx vy <= 0) else true
def Pp (x y u v : Int) : Bool := decide (x * v - y * u = 0 /\ 0 < x * u + y * v)
def RL (fx fy tx ty vx vy : Int) : Bool := if (Pp fx fy tx ty || Pp fx fy vx vy) = true then true else if Pp tx ty vx vy = true then false else if fx * vy - fy * vx > 0 then decide (vx * ty - vy * tx > 0 \/ fx * ty - fy * tx <= 0) else decide (vx * ty - vy * tx > 0 /\ fx * ty - fy * tx < 0)
theorem KP (x y u v : Int) (h1 : -4000000000000 <= x * v /\ x * v <= 4000000000000) (h2 : -4000000000000 <= y * u /\ y * u <= 4000000000000) : au Tryz.prog 194 [.agg [.g (.int .i64 (x)), .g (.int .i64 (y))], .agg [.g (.int .i64 (u)), .g (.int .i64 (v))]] (.t (.one (.g (.int .i64 (sK x y u v))))) := by
  refine ah Tryz.func194 rfl (by rw [Tryz.ntmps194]; simp) ?_
  simp only [Tryz.ntmps194, zM, PT.tv, ak, Nat.zero_add, Nat.reduceAdd]
  repeat' (first
 | ((with_reducible show AW _ _ _ _); first
 | (with_reducible first | refine aS (fun K hK => ?_) | refine aI ?_ | refine aT ?_ | refine aC ?_ | refine aB ?_)
 | (first
 | (with_reducible refine aP 0 [0,1] ?_)
 | ((with_reducible refine aR (c := Code.region 1 _ true) [2,3] ?_); (with_reducible refine aD ?_ ?_ ?_ ?_); (focus kernel_rfl); (focus kernel_rfl); (focus kernel_rfl))
 | (with_reducible first | refine aP 2 [2] ?_ | refine aP 3 [] ?_ | refine aP 4 [] ?_ | refine aP 5 [2,3] ?_ | refine aP 6 [] ?_ | refine aP 7 [2,3] ?_ | refine aP 8 [] ?_ | refine aP 9 [] ?_)))
 | ((first | (with_reducible refine And.intro ?_ ?_) | (with_reducible refine Need.mk ?_)); focus (exact True.intro))
 | (with_reducible refine aA ?_)
 | ((with_reducible show aY _ _ _ _ _ _); first
 | ((with_reducible refine aH ?_ ?_) <;> (intro hc; (try simp only [zB, zC, reduceCtorEq] at hc); (try (exfalso; contradiction)))))
 | ((with_reducible refine And.intro ?_ ?_); focus ((with_reducible show fB _ _ _ = true); kernel_rfl))
 | ((with_reducible show aN _ _ _ _ _ _ _ _ _ _); first
 | (refine aj (k := 207) vC (Fe x y) ?_ ?_)
 | (refine aj (k := 208) FP (Sl x y u v h1 h2) ?_ ?_))
 | ((with_reducible show dA _ _ _ _ _ _ _ _ _ _ _ _ _); first
 | (refine aV (k := 207) vC (Fe x y) ?_ ?_)
 | (refine aV (k := 207) vC (Fe u v) ?_ ?_))
 | ((fail_if_success (with_reducible show AW _ _ _ _)); simp (maxSteps := 2000000) only [go_sem, reduceIte, reduceCtorEq, xA, xL, xD, xE, xM, xS, xB, Tryz.f194])
 | ((with_reducible refine hK _ ?_); clear hK K))
  all_goals (first | (unfold sK vY Bd; simp_all; done) | (rw [sK, if_neg (by simp only [vY]; assumption), if_pos (by simp only [vY, decide_eq_true_eq]; assumption)]) | (rw [sK, if_neg (by simp only [vY]; assumption), if_neg (by simp only [vY, decide_eq_true_eq]; assumption)]) | (rw [sK, if_pos (by simp only [vY]; assumption)]; unfold Bd; (repeat' split) <;> omega))
theorem Qq (x y u v : Int) (d1 : kD x y = true) (d2 : kD u v = true) : au Tryz.prog 186 [.agg [.g (.int .i64 (x)), .g (.int .i64 (y))], .agg [.g (.int .i64 (u)), .g (.int .i64 (v))]] (.t (.one (.g (.bool (Pp x y u v))))) := by
  simp only [kD, decide_eq_true_eq] at d1 d2
  have k1 := pQ (M := 1000000) d1.1 d2.1
  refine ah Tryz.func186 rfl (by rw [Tryz.ntmps186]; simp) ?_
  simp only [Tryz.ntmps186, zM, PT.tv, ak, Nat.zero_add, Nat.reduceAdd]
  repeat' (first
 | ((with_reducible show AW _ _ _ _); first
 | (with_reducible first | refine aS (fun K hK => ?_) | refine aT ?_)
 | (first
 | (with_reducible first | refine aP 0 [0,1] ?_ | refine aP 1 [2,3] ?_)))
 | (((with_reducible refine Need.mk ?_)); focus (exact True.intro))
 | (with_reducible refine aA ?_)
 | ((with_reducible show aN _ _ _ _ _ _ _ _ _ _); first
 | (refine aj (k := 187) qJ (qX x y u v (by omega) (by omega)) ?_ ?_))
 | ((fail_if_success (with_reducible show AW _ _ _ _)); simp (maxSteps := 2000000) only [go_sem, reduceIte, reduceCtorEq, xA, xL, xD, xE, xM, xS, xB, Tryz.f186])
 | ((fail_if_success (with_reducible show AW _ _ _ _)); simp (disch := omega) only [aJ, dG, dH])
 | ((with_reducible refine hK _ ?_); clear hK K))
  all_goals ((unfold Pp; refine Bool.eq_iff_iff.2 ?_; simp only [Bool.and_eq_true, decide_eq_true_eq, beq_iff_eq, gt_iff_lt]; done))
theorem VY (x y u v z w : Int) (d1 : kD x y = true) (d2 : kD u v = true) (d3 : kD z w = true) : au Tryz.prog 158 [.agg [.g (.int .i64 (x)), .g (.int .i64 (y))], .agg [.g (.int .i64 (u)), .g (.int .i64 (v))], .agg [.g (.int .i64 (z)), .g (.int .i64 (w))]] (.t (.one (.g (.bool (RL x y u v z w))))) := by
  have e1 := d1; have e2 := d2; have e3 := d3
  simp only [kD, decide_eq_true_eq] at d1 d2 d3
  have k1 := pQ (M := 1000000) d1.1 d2.1
  have k2 := pQ (M := 1000000) d1.1 d3.1
  have k3 := pQ (M := 1000000) d2.1 d3.1
  have k4 := pQ (M := 1000000) d3.1 d2.1
  refine ah Tryz.func158 rfl (by rw [Tryz.ntmps158]; simp) ?_
  simp only [Tryz.ntmps158, zM, PT.tv, ak, Nat.zero_add, Nat.reduceAdd]
  repeat' (first
 | ((with_reducible show AW _ _ _ _); first
 | (with_reducible first | refine aS (fun K hK => ?_) | refine aI ?_ | refine aT ?_ | refine aC ?_)
 | (first
 | (with_reducible first | refine aP 0 [0,1,2] ?_ | refine aP 1 [3,4,5] ?_ | refine aP 2 [] ?_ | refine aP 3 [3,4,5] ?_ | refine aP 4 [] ?_ | refine aP 5 [3,4,5] ?_ | refine aP 6 [3,4,5] ?_ | refine aP 7 [3,4,5] ?_)))
 | ((first | (with_reducible refine And.intro ?_ ?_) | (with_reducible refine Need.mk ?_)); focus (first | exact True.intro | (intro _; (with_reducible assumption)) | (simp; done)))
 | (with_reducible refine aA ?_)
 | ((with_reducible show aY _ _ _ _ _ _); first
 | ((with_reducible refine aH ?_ ?_) <;> (intro hc; (try simp only [zB, zC, reduceCtorEq] at hc); (try (exfalso; contradiction)))))
 | ((with_reducible show aN _ _ _ _ _ _ _ _ _ _); first
 | (refine aj (k := 186) uV (Qq x y u v e1 e2) ?_ ?_)
 | (refine aj (k := 186) uV (Qq u v z w e2 e3) ?_ ?_)
 | (refine aj (k := 187) qJ (qX x y z w (by omega) (by omega)) ?_ ?_)
 | (refine aj (k := 187) qJ (qX z w u v (by omega) (by omega)) ?_ ?_))
 | ((with_reducible show bK _ _ _ _ _ _ _ _ _ _); first
 | (refine aQ (k := 186) uV (fun hg => Qq x y z w e1 e3) ?_ ?_)
 | (refine aQ (k := 187) qJ (fun hg => qX x y u v (by omega) (by omega)) ?_ ?_))
 | ((fail_if_success (with_reducible show AW _ _ _ _)); simp (maxSteps := 2000000) only [go_sem, reduceIte, reduceCtorEq, xA, xL, xD, xE, xM, xS, xB, Tryz.f158])
 | ((with_reducible refine hK _ ?_); clear hK K))
  all_goals (first | (unfold RL; simp_all; done) | (unfold RL; rw [if_neg (by simp_all), if_neg (by simp_all), if_neg (by omega)]; refine Bool.eq_iff_iff.2 ?_; simp only [Bool.and_eq_true, decide_eq_true_eq]))
end Go.Proofs.YtmnejmpjmniiiaaGreatDoor
namespace Go.Proofs.YtmnejmpjmniiiaaGreatDoor.Ph
def up (x y : Int) : Prop := 0 < y \/ (y = 0 /\ 0 < x)
theorem sV {a b : Int} (ha : 0 < a) (h : 0 < a * b) : 0 < b := by
  rcases Int.lt_trichotomy b 0 with g | g | g
  · have := Int.mul_neg_of_pos_of_neg ha g; omega
  · subst g; simp at h
  · exact g
theorem Cu {a b : Int} (ha : 0 < a) (h : 0 <= a * b) : 0 <= b := by
  rcases Int.lt_or_le b 0 with g | g
  · have := Int.mul_neg_of_pos_of_neg ha g; omega
  · exact g
theorem BN {a b : Int} (ha : 0 < a) (h : a * b = 0) : b = 0 := by
  rcases Int.mul_eq_zero.1 h with g | g <;> omega
theorem idY (x y u v z w : Int) : v * (x * w - y * z) = w * (x * v - y * u) + y * (u * w - v * z) := by
  simp only [Int.mul_sub]
  have e1 : v * (x * w) = w * (x * v) := by rw [Int.mul_left_comm, Int.mul_comm v w, Int.mul_left_comm]
  have e2 : v * (y * z) = y * (v * z) := by rw [Int.mul_left_comm]
  have e3 : w * (y * u) = y * (u * w) := by rw [Int.mul_left_comm, Int.mul_comm w u]
  omega
theorem ahn {x y u v z w : Int} (ha : up x y) (hb : up u v) (hc : up z w) (h1 : 0 <= x * v - y * u) (h2 : 0 <= u * w - v * z) : 0 <= x * w - y * z /\ (0 < x * v - y * u \/ 0 < u * w - v * z -> 0 < x * w - y * z) /\ ((x * v - y * u = 0 /\ u * w - v * z = 0) -> x * w - y * z = 0) := by
  have I := idY x y u v z w
  unfold up at ha hb hc
  rcases hb with hb | ⟨hb, hb'⟩
  · have hy : 0 <= y := by omega
    have hw : 0 <= w := by omega
    have m1 := Int.mul_nonneg hw h1
    have m2 := Int.mul_nonneg hy h2
    refine ⟨Cu hb (by omega), ?_, ?_⟩
    · rintro (g | g)
      · rcases hc with hc | ⟨hc, hc'⟩
        · have := Int.mul_pos hc g
          exact sV hb (by omega)
        · subst hc
          rcases ha with ha | ⟨ha, ha'⟩
          · exfalso; have := Int.mul_pos hb hc'; simp only [Int.mul_zero] at h2; omega
          · exfalso; have := Int.mul_pos hb hc'; simp only [Int.mul_zero] at h2; omega
      · rcases ha with ha | ⟨ha, ha'⟩
        · have := Int.mul_pos ha g
          exact sV hb (by omega)
        · subst ha
          simp only [Int.zero_mul, Int.sub_zero]
          rcases hc with hc | ⟨hc, hc'⟩
          · exact Int.mul_pos ha' hc
          · exfalso; subst hc; have := Int.mul_pos hb hc'; simp only [Int.mul_zero] at h2; omega
    · rintro ⟨g1, g2⟩
      rw [g1, g2] at I
      simp only [Int.mul_zero, Int.add_zero] at I
      exact BN hb I
  · subst hb
    simp only [Int.mul_zero, Int.zero_mul, Int.sub_zero, Int.zero_sub] at h1 h2 ⊢
    have hy : y = 0 := by
      rcases ha with ha | ha
      · have := Int.mul_pos ha hb'; omega
      · exact ha.1
    subst hy
    simp only [Int.zero_mul, Int.sub_zero, Int.neg_zero] at *
    have hx : 0 < x := by omega
    have hw : 0 <= w := by omega
    refine ⟨Int.mul_nonneg (by omega) hw, ?_, ?_⟩
    · rintro (g | g)
      · omega
      · exact Int.mul_pos hx (sV hb' g)
    · rintro ⟨-, g⟩
      rw [BN hb' g]; simp
theorem flip (x y u v : Int) : u * y - v * x = - (x * v - y * u) := by rw [Int.mul_comm u y, Int.mul_comm v x]; omega
theorem aaQ {x y u v : Int} (ha : up x y) (hb : up u v) (h : x * v - y * u = 0) : 0 < x * u + y * v := by
  unfold up at ha hb
  rcases ha with ha | ⟨ha, ha'⟩
  · rcases hb with hb | ⟨hb, hb'⟩
    · -- both heights positive: x v = y u
      have p := Int.mul_pos ha hb
      have e : x * v = y * u := by omega
      -- y v (x u) = (y u)(x v) >= 0
      have s : y * v * (x * u) = (x * v) * (x * v) := by
        have : y * v * (x * u) = (x * v) * (y * u) := by
          rw [Int.mul_comm x v, Int.mul_comm y v, Int.mul_assoc, Int.mul_assoc, Int.mul_left_comm y x u]
        rw [this, <- e]
      have q : 0 <= (x * v) * (x * v) := by
        rcases Int.le_total 0 (x * v) with g | g
        · exact Int.mul_nonneg g g
        · exact Int.mul_nonneg_of_nonpos_of_nonpos g g
      have := Cu p (by omega : 0 <= y * v * (x * u))
      omega
    · subst hb
      have := Int.mul_pos ha hb'
      simp only [Int.mul_zero] at h; omega
  · subst ha
    simp only [Int.zero_mul, Int.sub_zero, Int.add_zero] at h ⊢
    have hv := BN ha' h
    unfold up at *
    exact Int.mul_pos ha' (by omega)
end Go.Proofs.YtmnejmpjmniiiaaGreatDoor.Ph
namespace Go.Proofs.YtmnejmpjmniiiaaGreatDoor
def dF (p q : Bool) (A : Int) : Int := if p = q then - Bd A else if p = true then -1 else 1
def sg2 (p q : Bool) (A : Int) : Int := if p = q then A else -A
def jd (a c b : Int) : Prop := 0 <= a -> 0 <= c -> 0 <= b /\ (0 < a \/ 0 < c -> 0 < b)
theorem oH {z : Int} (h : 0 < z) : Bd z = 1 := by unfold Bd; rw [if_pos h]
theorem oF {z : Int} (h : z < 0) : Bd z = -1 := by unfold Bd; rw [if_neg (by omega), if_pos h]
theorem oK {z : Int} (h : z = 0) : Bd z = 0 := by subst h; rfl
theorem RJ (A B C D1 D2 D3 : Int) (hA : A = 0 -> (0 < D1 ↔ false = false)) (hB : B = 0 -> (0 < D2 ↔ false = false)) (hC : C = 0 -> (0 < D3 ↔ false = false))
    (t1 : jd (sg2 false false A) (sg2 false false C) (sg2 false false B)) (t2 : jd (sg2 false false B) (-sg2 false false C) (sg2 false false A)) (t3 : jd (-sg2 false false A) (sg2 false false B) (sg2 false false C))
    (t4 : jd (sg2 false false C) (-sg2 false false B) (-sg2 false false A)) (t5 : jd (-sg2 false false B) (sg2 false false A) (-sg2 false false C)) (t6 : jd (-sg2 false false C) (-sg2 false false A) (-sg2 false false B)) :
    (if (decide (A = 0 /\ 0 < D1) || decide (B = 0 /\ 0 < D2)) = true then true else if decide (C = 0 /\ 0 < D3) = true then false else if B > 0 then decide (-C > 0 \/ A <= 0) else decide (-C > 0 /\ A < 0))
    = (if dF false false A = -1 then decide (dF false false B <= 0) && !decide (dF false false C <= 0) else if dF false false A = 1 then decide (dF false false B <= 0) || !decide (dF false false C <= 0) else true) := by
  unfold jd at t1 t2 t3 t4 t5 t6
  simp only [sg2, dF, reduceCtorEq, if_true, if_false, iff_true, iff_false, if_neg Bool.false_ne_true, not_false_eq_true, Bool.true_eq_false, Bool.false_eq_true] at hA hB hC t1 t2 t3 t4 t5 t6 ⊢ <;>
    rcases Int.lt_trichotomy A 0 with a | a | a <;> rcases Int.lt_trichotomy B 0 with b | b | b <;> rcases Int.lt_trichotomy C 0 with c | c | c <;>
    first
    | (exfalso; omega)
    | (first | rw [oF a] | rw [oK a] | rw [oH a]
       first | rw [oF b] | rw [oK b] | rw [oH b]
       first | rw [oF c] | rw [oK c] | rw [oH c]
       refine Bool.eq_iff_iff.2 ?_
       simp only [Bool.or_eq_true, decide_eq_true_eq]
       repeat' split
       all_goals (try simp only [Bool.and_eq_true, Bool.or_eq_true, decide_eq_true_eq, Bool.not_eq_true', decide_eq_false_iff_not, iff_self, true_iff, iff_true, Bool.false_eq_true, false_iff, iff_false, Int.neg_neg])
       all_goals (first | omega | exact absurd True.intro (by assumption)))
theorem TP (A B C D1 D2 D3 : Int) (hA : A = 0 -> (0 < D1 ↔ false = false)) (hB : B = 0 -> (0 < D2 ↔ false = true)) (hC : C = 0 -> (0 < D3 ↔ false = true))
    (t1 : jd (sg2 false false A) (sg2 false true C) (sg2 false true B)) (t2 : jd (sg2 false true B) (-sg2 false true C) (sg2 false false A)) (t3 : jd (-sg2 false false A) (sg2 false true B) (sg2 false true C))
    (t4 : jd (sg2 false true C) (-sg2 false true B) (-sg2 false false A)) (t5 : jd (-sg2 false true B) (sg2 false false A) (-sg2 false true C)) (t6 : jd (-sg2 false true C) (-sg2 false false A) (-sg2 false true B)) :
    (if (decide (A = 0 /\ 0 < D1) || decide (B = 0 /\ 0 < D2)) = true then true else if decide (C = 0 /\ 0 < D3) = true then false else if B > 0 then decide (-C > 0 \/ A <= 0) else decide (-C > 0 /\ A < 0))
    = (if dF false false A = -1 then decide (dF false true B <= 0) && !decide (dF false true C <= 0) else if dF false false A = 1 then decide (dF false true B <= 0) || !decide (dF false true C <= 0) else true) := by
  unfold jd at t1 t2 t3 t4 t5 t6
  simp only [sg2, dF, reduceCtorEq, if_true, if_false, iff_true, iff_false, if_neg Bool.false_ne_true, not_false_eq_true, Bool.true_eq_false, Bool.false_eq_true] at hA hB hC t1 t2 t3 t4 t5 t6 ⊢ <;>
    rcases Int.lt_trichotomy A 0 with a | a | a <;> rcases Int.lt_trichotomy B 0 with b | b | b <;> rcases Int.lt_trichotomy C 0 with c | c | c <;>
    first
    | (exfalso; omega)
    | (first | rw [oF a] | rw [oK a] | rw [oH a]
       skip
       skip
       refine Bool.eq_iff_iff.2 ?_
       simp only [Bool.or_eq_true, decide_eq_true_eq]
       repeat' split
       all_goals (try simp only [Bool.and_eq_true, Bool.or_eq_true, decide_eq_true_eq, Bool.not_eq_true', decide_eq_false_iff_not, iff_self, true_iff, iff_true, Bool.false_eq_true, false_iff, iff_false, Int.neg_neg])
       all_goals (first | omega | exact absurd True.intro (by assumption)))
theorem RI (A B C D1 D2 D3 : Int) (hA : A = 0 -> (0 < D1 ↔ false = true)) (hB : B = 0 -> (0 < D2 ↔ false = false)) (hC : C = 0 -> (0 < D3 ↔ true = false))
    (t1 : jd (sg2 false true A) (sg2 true false C) (sg2 false false B)) (t2 : jd (sg2 false false B) (-sg2 true false C) (sg2 false true A)) (t3 : jd (-sg2 false true A) (sg2 false false B) (sg2 true false C))
    (t4 : jd (sg2 true false C) (-sg2 false false B) (-sg2 false true A)) (t5 : jd (-sg2 false false B) (sg2 false true A) (-sg2 true false C)) (t6 : jd (-sg2 true false C) (-sg2 false true A) (-sg2 false false B)) :
    (if (decide (A = 0 /\ 0 < D1) || decide (B = 0 /\ 0 < D2)) = true then true else if decide (C = 0 /\ 0 < D3) = true then false else if B > 0 then decide (-C > 0 \/ A <= 0) else decide (-C > 0 /\ A < 0))
    = (if dF false true A = -1 then decide (dF false false B <= 0) && !decide (dF true false C <= 0) else if dF false true A = 1 then decide (dF false false B <= 0) || !decide (dF true false C <= 0) else true) := by
  unfold jd at t1 t2 t3 t4 t5 t6
  simp only [sg2, dF, reduceCtorEq, if_true, if_false, iff_true, iff_false, if_neg Bool.false_ne_true, not_false_eq_true, Bool.true_eq_false, Bool.false_eq_true] at hA hB hC t1 t2 t3 t4 t5 t6 ⊢ <;>
    rcases Int.lt_trichotomy A 0 with a | a | a <;> rcases Int.lt_trichotomy B 0 with b | b | b <;> rcases Int.lt_trichotomy C 0 with c | c | c <;>
    first
    | (exfalso; omega)
    | (skip
       first | rw [oF b] | rw [oK b] | rw [oH b]
       skip
       refine Bool.eq_iff_iff.2 ?_
       simp only [Bool.or_eq_true, decide_eq_true_eq]
       repeat' split
       all_goals (try simp only [Bool.and_eq_true, Bool.or_eq_true, decide_eq_true_eq, Bool.not_eq_true', decide_eq_false_iff_not, iff_self, true_iff, iff_true, Bool.false_eq_true, false_iff, iff_false, Int.neg_neg])
       all_goals (omega))
theorem UD (A B C D1 D2 D3 : Int) (hA : A = 0 -> (0 < D1 ↔ false = true)) (hB : B = 0 -> (0 < D2 ↔ false = true)) (hC : C = 0 -> (0 < D3 ↔ true = true))
    (t1 : jd (sg2 false true A) (sg2 true true C) (sg2 false true B)) (t2 : jd (sg2 false true B) (-sg2 true true C) (sg2 false true A)) (t3 : jd (-sg2 false true A) (sg2 false true B) (sg2 true true C))
    (t4 : jd (sg2 true true C) (-sg2 false true B) (-sg2 false true A)) (t5 : jd (-sg2 false true B) (sg2 false true A) (-sg2 true true C)) (t6 : jd (-sg2 true true C) (-sg2 false true A) (-sg2 false true B)) :
    (if (decide (A = 0 /\ 0 < D1) || decide (B = 0 /\ 0 < D2)) = true then true else if decide (C = 0 /\ 0 < D3) = true then false else if B > 0 then decide (-C > 0 \/ A <= 0) else decide (-C > 0 /\ A < 0))
    = (if dF false true A = -1 then decide (dF false true B <= 0) && !decide (dF true true C <= 0) else if dF false true A = 1 then decide (dF false true B <= 0) || !decide (dF true true C <= 0) else true) := by
  unfold jd at t1 t2 t3 t4 t5 t6
  simp only [sg2, dF, reduceCtorEq, if_true, if_false, iff_true, iff_false, if_neg Bool.false_ne_true, not_false_eq_true, Bool.true_eq_false, Bool.false_eq_true] at hA hB hC t1 t2 t3 t4 t5 t6 ⊢ <;>
    rcases Int.lt_trichotomy A 0 with a | a | a <;> rcases Int.lt_trichotomy B 0 with b | b | b <;> rcases Int.lt_trichotomy C 0 with c | c | c <;>
    first
    | (exfalso; omega)
    | (skip
       skip
       first | rw [oF c] | rw [oK c] | rw [oH c]
       refine Bool.eq_iff_iff.2 ?_
       simp only [Bool.or_eq_true, decide_eq_true_eq]
       repeat' split
       all_goals (try simp only [Bool.and_eq_true, Bool.or_eq_true, decide_eq_true_eq, Bool.not_eq_true', decide_eq_false_iff_not, iff_self, true_iff, iff_true, Bool.false_eq_true, false_iff, iff_false, Int.neg_neg])
       all_goals (omega))
theorem QK (A B C D1 D2 D3 : Int) (hA : A = 0 -> (0 < D1 ↔ true = false)) (hB : B = 0 -> (0 < D2 ↔ true = false)) (hC : C = 0 -> (0 < D3 ↔ false = false))
    (t1 : jd (sg2 true false A) (sg2 false false C) (sg2 true false B)) (t2 : jd (sg2 true false B) (-sg2 false false C) (sg2 true false A)) (t3 : jd (-sg2 true false A) (sg2 true false B) (sg2 false false C))
    (t4 : jd (sg2 false false C) (-sg2 true false B) (-sg2 true false A)) (t5 : jd (-sg2 true false B) (sg2 true false A) (-sg2 false false C)) (t6 : jd (-sg2 false false C) (-sg2 true false A) (-sg2 true false B)) :
    (if (decide (A = 0 /\ 0 < D1) || decide (B = 0 /\ 0 < D2)) = true then true else if decide (C = 0 /\ 0 < D3) = true then false else if B > 0 then decide (-C > 0 \/ A <= 0) else decide (-C > 0 /\ A < 0))
    = (if dF true false A = -1 then decide (dF true false B <= 0) && !decide (dF false false C <= 0) else if dF true false A = 1 then decide (dF true false B <= 0) || !decide (dF false false C <= 0) else true) := by
  unfold jd at t1 t2 t3 t4 t5 t6
  simp only [sg2, dF, reduceCtorEq, if_true, if_false, iff_true, iff_false, if_neg Bool.false_ne_true, not_false_eq_true, Bool.true_eq_false, Bool.false_eq_true] at hA hB hC t1 t2 t3 t4 t5 t6 ⊢ <;>
    rcases Int.lt_trichotomy A 0 with a | a | a <;> rcases Int.lt_trichotomy B 0 with b | b | b <;> rcases Int.lt_trichotomy C 0 with c | c | c <;>
    first
    | (exfalso; omega)
    | (skip
       skip
       first | rw [oF c] | rw [oK c] | rw [oH c]
       refine Bool.eq_iff_iff.2 ?_
       simp only [Bool.or_eq_true, decide_eq_true_eq]
       repeat' split
       all_goals (try simp only [Bool.and_eq_true, Bool.or_eq_true, decide_eq_true_eq, Bool.not_eq_true', decide_eq_false_iff_not, iff_self, true_iff, iff_true, Bool.false_eq_true, false_iff, iff_false, Int.neg_neg])
       all_goals (omega))
theorem Ua (A B C D1 D2 D3 : Int) (hA : A = 0 -> (0 < D1 ↔ true = false)) (hB : B = 0 -> (0 < D2 ↔ true = true)) (hC : C = 0 -> (0 < D3 ↔ false = true))
    (t1 : jd (sg2 true false A) (sg2 false true C) (sg2 true true B)) (t2 : jd (sg2 true true B) (-sg2 false true C) (sg2 true false A)) (t3 : jd (-sg2 true false A) (sg2 true true B) (sg2 false true C))
    (t4 : jd (sg2 false true C) (-sg2 true true B) (-sg2 true false A)) (t5 : jd (-sg2 true true B) (sg2 true false A) (-sg2 false true C)) (t6 : jd (-sg2 false true C) (-sg2 true false A) (-sg2 true true B)) :
    (if (decide (A = 0 /\ 0 < D1) || decide (B = 0 /\ 0 < D2)) = true then true else if decide (C = 0 /\ 0 < D3) = true then false else if B > 0 then decide (-C > 0 \/ A <= 0) else decide (-C > 0 /\ A < 0))
    = (if dF true false A = -1 then decide (dF true true B <= 0) && !decide (dF false true C <= 0) else if dF true false A = 1 then decide (dF true true B <= 0) || !decide (dF false true C <= 0) else true) := by
  unfold jd at t1 t2 t3 t4 t5 t6
  simp only [sg2, dF, reduceCtorEq, if_true, if_false, iff_true, iff_false, if_neg Bool.false_ne_true, not_false_eq_true, Bool.true_eq_false, Bool.false_eq_true] at hA hB hC t1 t2 t3 t4 t5 t6 ⊢ <;>
    rcases Int.lt_trichotomy A 0 with a | a | a <;> rcases Int.lt_trichotomy B 0 with b | b | b <;> rcases Int.lt_trichotomy C 0 with c | c | c <;>
    first
    | (exfalso; omega)
    | (skip
       first | rw [oF b] | rw [oK b] | rw [oH b]
       skip
       refine Bool.eq_iff_iff.2 ?_
       simp only [Bool.or_eq_true, decide_eq_true_eq]
       repeat' split
       all_goals (try simp only [Bool.and_eq_true, Bool.or_eq_true, decide_eq_true_eq, Bool.not_eq_true', decide_eq_false_iff_not, iff_self, true_iff, iff_true, Bool.false_eq_true, false_iff, iff_false, Int.neg_neg])
       all_goals (omega))
theorem Sc (A B C D1 D2 D3 : Int) (hA : A = 0 -> (0 < D1 ↔ true = true)) (hB : B = 0 -> (0 < D2 ↔ true = false)) (hC : C = 0 -> (0 < D3 ↔ true = false))
    (t1 : jd (sg2 true true A) (sg2 true false C) (sg2 true false B)) (t2 : jd (sg2 true false B) (-sg2 true false C) (sg2 true true A)) (t3 : jd (-sg2 true true A) (sg2 true false B) (sg2 true false C))
    (t4 : jd (sg2 true false C) (-sg2 true false B) (-sg2 true true A)) (t5 : jd (-sg2 true false B) (sg2 true true A) (-sg2 true false C)) (t6 : jd (-sg2 true false C) (-sg2 true true A) (-sg2 true false B)) :
    (if (decide (A = 0 /\ 0 < D1) || decide (B = 0 /\ 0 < D2)) = true then true else if decide (C = 0 /\ 0 < D3) = true then false else if B > 0 then decide (-C > 0 \/ A <= 0) else decide (-C > 0 /\ A < 0))
    = (if dF true true A = -1 then decide (dF true false B <= 0) && !decide (dF true false C <= 0) else if dF true true A = 1 then decide (dF true false B <= 0) || !decide (dF true false C <= 0) else true) := by
  unfold jd at t1 t2 t3 t4 t5 t6
  simp only [sg2, dF, reduceCtorEq, if_true, if_false, iff_true, iff_false, if_neg Bool.false_ne_true, not_false_eq_true, Bool.true_eq_false, Bool.false_eq_true] at hA hB hC t1 t2 t3 t4 t5 t6 ⊢ <;>
    rcases Int.lt_trichotomy A 0 with a | a | a <;> rcases Int.lt_trichotomy B 0 with b | b | b <;> rcases Int.lt_trichotomy C 0 with c | c | c <;>
    first
    | (exfalso; omega)
    | (first | rw [oF a] | rw [oK a] | rw [oH a]
       skip
       skip
       refine Bool.eq_iff_iff.2 ?_
       simp only [Bool.or_eq_true, decide_eq_true_eq]
       repeat' split
       all_goals (try simp only [Bool.and_eq_true, Bool.or_eq_true, decide_eq_true_eq, Bool.not_eq_true', decide_eq_false_iff_not, iff_self, true_iff, iff_true, Bool.false_eq_true, false_iff, iff_false, Int.neg_neg])
       all_goals (first | omega | exact absurd True.intro (by assumption)))
theorem Sj (A B C D1 D2 D3 : Int) (hA : A = 0 -> (0 < D1 ↔ true = true)) (hB : B = 0 -> (0 < D2 ↔ true = true)) (hC : C = 0 -> (0 < D3 ↔ true = true))
    (t1 : jd (sg2 true true A) (sg2 true true C) (sg2 true true B)) (t2 : jd (sg2 true true B) (-sg2 true true C) (sg2 true true A)) (t3 : jd (-sg2 true true A) (sg2 true true B) (sg2 true true C))
    (t4 : jd (sg2 true true C) (-sg2 true true B) (-sg2 true true A)) (t5 : jd (-sg2 true true B) (sg2 true true A) (-sg2 true true C)) (t6 : jd (-sg2 true true C) (-sg2 true true A) (-sg2 true true B)) :
    (if (decide (A = 0 /\ 0 < D1) || decide (B = 0 /\ 0 < D2)) = true then true else if decide (C = 0 /\ 0 < D3) = true then false else if B > 0 then decide (-C > 0 \/ A <= 0) else decide (-C > 0 /\ A < 0))
    = (if dF true true A = -1 then decide (dF true true B <= 0) && !decide (dF true true C <= 0) else if dF true true A = 1 then decide (dF true true B <= 0) || !decide (dF true true C <= 0) else true) := by
  unfold jd at t1 t2 t3 t4 t5 t6
  simp only [sg2, dF, reduceCtorEq, if_true, if_false, iff_true, iff_false, if_neg Bool.false_ne_true, not_false_eq_true, Bool.true_eq_false, Bool.false_eq_true] at hA hB hC t1 t2 t3 t4 t5 t6 ⊢ <;>
    rcases Int.lt_trichotomy A 0 with a | a | a <;> rcases Int.lt_trichotomy B 0 with b | b | b <;> rcases Int.lt_trichotomy C 0 with c | c | c <;>
    first
    | (exfalso; omega)
    | (first | rw [oF a] | rw [oK a] | rw [oH a]
       first | rw [oF b] | rw [oK b] | rw [oH b]
       first | rw [oF c] | rw [oK c] | rw [oH c]
       refine Bool.eq_iff_iff.2 ?_
       simp only [Bool.or_eq_true, decide_eq_true_eq]
       repeat' split
       all_goals (try simp only [Bool.and_eq_true, Bool.or_eq_true, decide_eq_true_eq, Bool.not_eq_true', decide_eq_false_iff_not, iff_self, true_iff, iff_true, Bool.false_eq_true, false_iff, iff_false, Int.neg_neg])
       all_goals (first | omega | exact absurd True.intro (by assumption)))
theorem Yh (p q r : Bool) (A B C D1 D2 D3 : Int) (hA : A = 0 -> (0 < D1 ↔ p = q)) (hB : B = 0 -> (0 < D2 ↔ p = r)) (hC : C = 0 -> (0 < D3 ↔ q = r))
    (t1 : jd (sg2 p q A) (sg2 q r C) (sg2 p r B)) (t2 : jd (sg2 p r B) (-sg2 q r C) (sg2 p q A)) (t3 : jd (-sg2 p q A) (sg2 p r B) (sg2 q r C))
    (t4 : jd (sg2 q r C) (-sg2 p r B) (-sg2 p q A)) (t5 : jd (-sg2 p r B) (sg2 p q A) (-sg2 q r C)) (t6 : jd (-sg2 q r C) (-sg2 p q A) (-sg2 p r B)) :
    (if (decide (A = 0 /\ 0 < D1) || decide (B = 0 /\ 0 < D2)) = true then true else if decide (C = 0 /\ 0 < D3) = true then false else if B > 0 then decide (-C > 0 \/ A <= 0) else decide (-C > 0 /\ A < 0))
    = (if dF p q A = -1 then decide (dF p r B <= 0) && !decide (dF q r C <= 0) else if dF p q A = 1 then decide (dF p r B <= 0) || !decide (dF q r C <= 0) else true) := by
  cases p <;> cases q <;> cases r
  · exact RJ A B C D1 D2 D3 hA hB hC t1 t2 t3 t4 t5 t6
  · exact TP A B C D1 D2 D3 hA hB hC t1 t2 t3 t4 t5 t6
  · exact RI A B C D1 D2 D3 hA hB hC t1 t2 t3 t4 t5 t6
  · exact UD A B C D1 D2 D3 hA hB hC t1 t2 t3 t4 t5 t6
  · exact QK A B C D1 D2 D3 hA hB hC t1 t2 t3 t4 t5 t6
  · exact Ua A B C D1 D2 D3 hA hB hC t1 t2 t3 t4 t5 t6
  · exact Sc A B C D1 D2 D3 hA hB hC t1 t2 t3 t4 t5 t6
  · exact Sj A B C D1 D2 D3 hA hB hC t1 t2 t3 t4 t5 t6
theorem aec {x y : Int} (h : ¬ (x = 0 /\ y = 0)) (g : vY x y = false) : Ph.up (-x) (-y) := by
  unfold vY at g; rw [decide_eq_false_iff_not] at g; unfold Ph.up; omega
theorem ac6 {x y : Int} (g : vY x y = true) : Ph.up x y := by unfold Ph.up; exact of_decide_eq_true g
def sx (p : Bool) (x : Int) : Int := if p = true then x else -x
theorem FY {x y : Int} (h : ¬ (x = 0 /\ y = 0)) : Ph.up (sx (vY x y) x) (sx (vY x y) y) := by
  cases g : vY x y with
  | true => exact ac6 g
  | false => exact aec h g
theorem Ep (p q : Bool) (x y u v : Int) : sx p x * sx q v - sx p y * sx q u = sg2 p q (x * v - y * u) := by
  cases p <;> cases q <;> simp only [sx, sg2, Int.neg_mul, Int.mul_neg, Int.neg_neg, if_true, if_false, reduceCtorEq, Bool.false_eq_true] <;> omega
theorem abX (p q : Bool) (x y u v : Int) : sx p x * sx q u + sx p y * sx q v = if p = q then x * u + y * v else -(x * u + y * v) := by
  cases p <;> cases q <;> simp only [sx, Int.neg_mul, Int.mul_neg, Int.neg_neg, if_true, if_false, reduceCtorEq, Bool.false_eq_true] <;> omega
theorem ahK {p q : Bool} {A : Int} (h : A = 0) : sg2 p q A = 0 := by subst h; cases p <;> cases q <;> rfl
theorem Ry {x y u v : Int} (hx : ¬ (x = 0 /\ y = 0)) (hu : ¬ (u = 0 /\ v = 0)) (h : x * v - y * u = 0) : 0 < x * u + y * v ↔ vY x y = vY u v := by
  have d := Ph.aaQ (FY hx) (FY hu) (by rw [Ep]; exact ahK h)
  rw [abX] at d
  constructor
  · intro g
    by_cases e : vY x y = vY u v
    · exact e
    · rw [if_neg e] at d; omega
  · intro e; rw [if_pos e] at d; exact d
theorem jo (p q : Bool) (A : Int) : sg2 q p (-A) = - sg2 p q A := by cases p <;> cases q <;> simp [sg2]
theorem Cz {x y u v z w : Int} (ha : ¬ (x = 0 /\ y = 0)) (hb : ¬ (u = 0 /\ v = 0)) (hc : ¬ (z = 0 /\ w = 0)) : jd (sg2 (vY x y) (vY u v) (x * v - y * u)) (sg2 (vY u v) (vY z w) (u * w - v * z)) (sg2 (vY x y) (vY z w) (x * w - y * z)) := by
  intro h1 h2
  rw [<- Ep] at h1 h2 ⊢
  have h := Ph.ahn (FY ha) (FY hb) (FY hc) h1 h2
  rw [<- Ep, <- Ep] 
  exact ⟨h.1, h.2.1⟩
theorem VW {x y u v z w : Int} (d1 : kD x y = true) (d2 : kD u v = true) (d3 : kD z w = true) : RL x y u v z w = Ic x y u v z w := by
  have n1 := (of_decide_eq_true d1).2
  have n2 := (of_decide_eq_true d2).2
  have n3 := (of_decide_eq_true d3).2
  have f1 : u * y - v * x = -(x * v - y * u) := Ph.flip x y u v
  have f2 : z * y - w * x = -(x * w - y * z) := Ph.flip x y z w
  have f3 : z * v - w * u = -(u * w - v * z) := Ph.flip u v z w
  have h := Yh (vY x y) (vY u v) (vY z w) (x * v - y * u) (x * w - y * z) (u * w - v * z) (x * u + y * v) (x * z + y * w) (u * z + v * w) (Ry n1 n2) (Ry n1 n3) (Ry n2 n3)
    (Cz n1 n2 n3)
    (by rw [<- jo, <- f3]; exact Cz n1 n3 n2)
    (by rw [<- jo, <- f1]; exact Cz n2 n1 n3)
    (by rw [<- jo, <- jo, <- f2, <- f1]; exact Cz n2 n3 n1)
    (by rw [<- jo, <- jo, <- f2, <- f3]; exact Cz n3 n1 n2)
    (by rw [<- jo, <- jo, <- jo, <- f3, <- f1, <- f2]; exact Cz n3 n2 n1)
  unfold RL Ic Pp
  rw [f3]
  exact h
end Go.Proofs.YtmnejmpjmniiiaaGreatDoor
set_option maxRecDepth 100000
set_option maxHeartbeats 4000000
namespace Go.Proofs.YtmnejmpjmniiiaaGreatDoor
open Go.RowKit Go.Sea
open Nat renaming reduceAdd -> xA, reduceLT -> xL, reduceLeDiff -> xD, reduceEqDiff -> xE, reduceMul -> xM, reduceSub -> xS, reduceBEq -> xB
theorem air : BP Tryz.prog 64 = none := by kernel_rfl
theorem II : aM Tryz.prog 166 = true := by kernel_rfl
theorem zu : aM Tryz.prog 167 = true := by kernel_rfl
theorem FX : aM Tryz.prog 157 = true := by kernel_rfl
theorem zY : aM Tryz.prog 158 = true := by kernel_rfl
theorem BA : aM Tryz.prog 193 = true := by kernel_rfl
theorem vg : aM Tryz.prog 194 = true := by kernel_rfl
theorem zh : aM Tryz.prog 185 = true := by kernel_rfl
theorem afk : uY Tryz.prog 64 = some true := by kernel_rfl
theorem Tk : dB Tryz.prog 151 0 = some 0 := by kernel_rfl
theorem U0 : dB Tryz.prog 151 1 = some 2 := by kernel_rfl
theorem Rt : dB Tryz.prog 151 2 = some 4 := by kernel_rfl
theorem UM : dB Tryz.prog 151 3 = some 5 := by kernel_rfl
theorem afS : oU Tryz.prog 64 = some (6, 48, 151) := by kernel_rfl
theorem ab4 : mU Tryz.prog 151 = some (true, 6) := by kernel_rfl
theorem ab7 : eX Tryz.prog 151 = some [.iv (.g (.int .i64 0)), .iv (.g (.int .i64 0)), .iv (.g (.int .i64 0)), .iv (.g (.int .i64 0)), .iv (.g (.int .i64 0)), .iv (.g (.int .i64 0))] := by kernel_rfl
attribute [go_sem] air II zu FX zY BA vg zh afk Tk U0 Rt UM afS ab4 ab7
def G5 (a b c d k r : Int) : Bool := decide (kD a b = true /\ kD c d = true /\ (1 <= k /\ k <= 3) /\ (1 <= r /\ r <= 3000000))
def Yz (S : Nat -> Nat -> Int) (i : Nat) : Bool := G5 (S i 0) (S i 1) (S i 2) (S i 3) (S i 4) (S i 5)
def GX (S : Nat -> Nat -> Int) (i j : Nat) : Bool := Ic (S i 0) (S i 1) (S i 2) (S i 3) (S j 0) (S j 1)
def AY (S : Nat -> Nat -> Int) (i : Nat) : Prop := Yz S i = true /\ ∀ j, j < i -> GX S i j = false /\ GX S j i = false
instance (S : Nat -> Nat -> Int) (i : Nat) : Decidable (AY S i) := by unfold AY; infer_instance
def nM (n : Nat) (S : Nat -> Nat -> Int) : Bool := decide (n <= 12 /\ ∀ i, i < n -> AY S i)
theorem MZ {n : Nat} {S : Nat -> Nat -> Int} {i : Nat} (hi : (i : Int) < n) (h : G5 (S i 0) (S i 1) (S i 2) (S i 3) (S i 4) (S i 5) = false) : false = nM n S :=
  (decide_eq_false fun g => by have := (g.2 i (by omega)).1; unfold Yz at this; rw [h] at this; cases this).symm
theorem NJ {n : Nat} {S : Nat -> Nat -> Int} {i j : Nat} (hi : (i : Int) < n) (hj : (j : Int) < i) (h : Ic (S i 0) (S i 1) (S i 2) (S i 3) (S j 0) (S j 1) = true) : false = nM n S :=
  (decide_eq_false fun g => by have := ((g.2 i (by omega)).2 j (by omega)).1; unfold GX at this; rw [h] at this; cases this).symm
theorem NG {n : Nat} {S : Nat -> Nat -> Int} {i j : Nat} (hi : (i : Int) < n) (hj : (j : Int) < i) (h : Ic (S j 0) (S j 1) (S j 2) (S j 3) (S i 0) (S i 1) = true) : false = nM n S :=
  (decide_eq_false fun g => by have := ((g.2 i (by omega)).2 j (by omega)).2; unfold GX at this; rw [h] at this; cases this).symm
theorem VA {n : Nat} {S : Nat -> Nat -> Int} (h : (n : Int) > 12) : false = nM n S := (decide_eq_false fun g => by omega).symm
theorem SG {n i : Nat} {S : Nat -> Nat -> Int} (hi : i <= n) (h : (n : Int) <= i) (g : ∀ i', i' < i -> AY S i') : decide ((n : Int) <= 12) = nM n S := by
  unfold nM; refine decide_eq_decide.2 ⟨fun k => ⟨by omega, fun j hj => g j (by omega)⟩, fun k => by omega⟩
theorem VG {n i : Nat} {S : Nat -> Nat -> Int} (hn : (n : Int) <= 12) (hi : i <= n) (h : (n : Int) <= i) (g : ∀ i', i' < i -> AY S i') : true = nM n S := by
  rw [<- SG hi h g, decide_eq_true hn]
theorem xK {a b c d k r : Int} (h : G5 a b c d k r = true) : kD a b = true := (of_decide_eq_true h).1
theorem NI {a b c d k r : Int} (h : G5 a b c d k r = true) : kD c d = true := (of_decide_eq_true h).2.1
theorem Sr (x y u v p q z w : Int) (d1 : kD x y = true) (d2 : kD u v = true) (d3 : kD z w = true) : au Tryz.prog 167 [.agg [.g (.int .i64 (x)), .g (.int .i64 (y)), .g (.int .i64 (u)), .g (.int .i64 (v)), .g (.int .i64 (p)), .g (.int .i64 (q))], .agg [.g (.int .i64 (z)), .g (.int .i64 (w))]] (.t (.one (.g (.bool (Ic x y u v z w))))) := by
  simp only [kD, decide_eq_true_eq] at d1 d2 d3
  have k1 := pQ (M := 1000000) d1.1 d2.1
  have k2 := pQ (M := 1000000) d1.1 d3.1
  have k3 := pQ (M := 1000000) d2.1 d3.1
  have v1 := abq x y u v
  refine ah Tryz.func167 rfl (by rw [Tryz.ntmps167]; simp) ?_
  simp only [Tryz.ntmps167, zM, PT.tv, ak, Nat.zero_add, Nat.reduceAdd]
  repeat' (first
 | ((with_reducible show AW _ _ _ _); first
 | (with_reducible first | refine aS (fun K hK => ?_) | refine aI ?_ | refine aT ?_ | refine aC ?_ | refine aB ?_)
 | (first
 | (with_reducible refine aP 0 [0,1] ?_)
 | ((with_reducible refine aR (c := Code.region 1 _ true) [2,3] ?_); (with_reducible refine aD ?_ ?_ ?_ ?_); (focus kernel_rfl); (focus kernel_rfl); (focus kernel_rfl))
 | ((with_reducible refine aR (c := Code.region 2 _ true) [3,5,6] ?_); (with_reducible refine aD ?_ ?_ ?_ ?_); (focus kernel_rfl); (focus kernel_rfl); (focus kernel_rfl))
 | (with_reducible first | refine aP 3 [5,6,7,8] ?_ | refine aP 4 [7,8,23] ?_ | refine aP 5 [7,8] ?_ | refine aP 6 [7,8,23] ?_ | refine aP 7 [7,8] ?_ | refine aP 8 [] ?_)))
 | ((first | (with_reducible refine And.intro ?_ ?_) | (with_reducible refine Need.mk ?_)); focus (first | exact True.intro | (simp; done)))
 | (with_reducible refine aA ?_)
 | ((with_reducible show aY _ _ _ _ _ _); first
 | ((with_reducible refine aH ?_ ?_) <;> (intro hc; (try simp only [zB, zC, reduceCtorEq] at hc); (try (exfalso; contradiction)))))
 | ((with_reducible refine And.intro ?_ ?_); focus ((with_reducible show fB _ _ _ = true); kernel_rfl))
 | ((with_reducible show aN _ _ _ _ _ _ _ _ _ _); (refine aj (k := 194) vg (KP x y u v (by omega) (by omega)) ?_ ?_))
 | ((with_reducible show dA _ _ _ _ _ _ _ _ _ _ _ _ _); first
 | (refine aV (k := 194) vg (KP x y z w (by omega) (by omega)) ?_ ?_)
 | (refine aV (k := 194) vg (KP u v z w (by omega) (by omega)) ?_ ?_))
 | ((fail_if_success (with_reducible show AW _ _ _ _)); simp (maxSteps := 2000000) only [go_sem, reduceIte, reduceCtorEq, xA, xL, xD, xE, xM, xS, xB, Tryz.f167])
 | ((with_reducible refine hK _ ?_); clear hK K))
  all_goals ((unfold Ic; simp_all; done))
theorem Na (x y u v z w : Int) (d1 : kD x y = true) (d2 : kD u v = true) (d3 : kD z w = true) : au Tryz.prog 158 [.agg [.g (.int .i64 (x)), .g (.int .i64 (y))], .agg [.g (.int .i64 (u)), .g (.int .i64 (v))], .agg [.g (.int .i64 (z)), .g (.int .i64 (w))]] (.t (.one (.g (.bool (Ic x y u v z w))))) := by
  rw [<- VW d1 d2 d3]; exact VY x y u v z w d1 d2 d3
theorem ah9 (a b c d k r : Int) : au Tryz.prog 166 [.agg [.g (.int .i64 (a)), .g (.int .i64 (b)), .g (.int .i64 (c)), .g (.int .i64 (d)), .g (.int .i64 (k)), .g (.int .i64 (r))]] (.t (.one (.g (.bool (G5 a b c d k r))))) := by
  refine ah Tryz.func166 rfl (by rw [Tryz.ntmps166]; simp) ?_
  simp only [Tryz.ntmps166, zM, PT.tv, ak, Nat.zero_add, Nat.reduceAdd]
  repeat' (first
 | ((with_reducible show AW _ _ _ _); first
 | (with_reducible first | refine aS (fun K hK => ?_) | refine aT ?_)
 | (first
 | (with_reducible first | refine aP 0 [0] ?_ | refine aP 1 [1] ?_)))
 | (((with_reducible refine Need.mk ?_)); focus (first | exact True.intro | (intro _; (with_reducible assumption))))
 | (with_reducible refine aA ?_)
 | ((with_reducible show aN _ _ _ _ _ _ _ _ _ _); (refine aj (k := 193) BA (Zz a b) ?_ ?_))
 | ((with_reducible show bK _ _ _ _ _ _ _ _ _ _); (refine aQ (k := 193) BA (fun hg => Zz c d) ?_ ?_))
 | ((fail_if_success (with_reducible show AW _ _ _ _)); simp (maxSteps := 2000000) only [go_sem, reduceIte, reduceCtorEq, xA, xL, xD, xE, xM, xS, xB, Tryz.f166])
 | ((with_reducible refine hK _ ?_); clear hK K))
  all_goals ((unfold G5; refine Bool.eq_iff_iff.2 ?_; simp only [Bool.and_eq_true, decide_eq_true_eq, ge_iff_le, and_assoc]; done))
theorem abS (a b c d k r : Int) : au Tryz.prog 157 [.agg [.g (.int .i64 (a)), .g (.int .i64 (b)), .g (.int .i64 (c)), .g (.int .i64 (d)), .g (.int .i64 (k)), .g (.int .i64 (r))]] (.t (.one (.g (.bool (G5 a b c d k r))))) := by
  refine ah Tryz.func157 rfl (by rw [Tryz.ntmps157]; simp) ?_
  simp only [Tryz.ntmps157, zM, PT.tv, ak, Nat.zero_add, Nat.reduceAdd]
  repeat' (first
 | ((with_reducible show AW _ _ _ _); first
 | (with_reducible first | refine aS (fun K hK => ?_) | refine aT ?_)
 | (first
 | (with_reducible first | refine aP 0 [0] ?_ | refine aP 1 [1] ?_ | refine aP 2 [1,3] ?_ | refine aP 3 [1,3,4] ?_)))
 | (((with_reducible refine Need.mk ?_)); focus (exact True.intro))
 | (with_reducible refine aA ?_)
 | ((with_reducible show aN _ _ _ _ _ _ _ _ _ _); first
 | (refine aj (k := 185) zh (Qj a b) ?_ ?_)
 | (refine aj (k := 185) zh (Qj c d) ?_ ?_))
 | ((fail_if_success (with_reducible show AW _ _ _ _)); simp (maxSteps := 2000000) only [go_sem, reduceIte, reduceCtorEq, xA, xL, xD, xE, xM, xS, xB, Tryz.f157])
 | ((with_reducible refine hK _ ?_); clear hK K))
  all_goals ((unfold G5; refine Bool.eq_iff_iff.2 ?_; simp only [Bool.and_eq_true, decide_eq_true_eq, ge_iff_le, and_assoc]; done))
theorem abW (n : Nat) (S : Nat -> Nat -> Int) (hn : n <= 9223372036854775807) : au Tryz.prog 143 [.one (.lst 6 n (bX S))] (.t (.one (.g (.bool (nM n S))))) := by
  refine ah Tryz.func143 rfl (by rw [Tryz.ntmps143]; simp) ?_
  simp only [Tryz.ntmps143, zM, PT.tv, ak, Nat.zero_add, Nat.reduceAdd]
  repeat' (first
 | ((with_reducible show AW _ _ _ _); first
 | (with_reducible first | refine aS (fun K hK => ?_) | refine aI ?_ | refine aX ?_ | refine aT ?_ | refine aC ?_ | refine aB ?_)
 | (first
 | (with_reducible first | refine aP 0 [0] ?_ | refine aP 1 [0] ?_ | refine aP 2 [0,7,8,9] ?_ | refine aP 3 [0,7,8,9] ?_ | refine aP 4 [0,3,4,7,8,9] ?_ | refine aP 5 [] ?_ | refine aP 6 [0,3,4,7,8,9] ?_ | refine aP 7 [0,4,7,8,9,19,20,21] ?_ | refine aP 8 [0,4,7,8,9,19,20,21] ?_ | refine aP 9 [0,4,6,7,8,9,19,20,21] ?_ | refine aP 10 [] ?_ | refine aP 11 [0,4,7,8,9,19,20,21] ?_ | refine aP 12 [0,7,8,9] ?_ | refine aP 13 [0] ?_))
 | ((with_reducible show AW _ (Code.loop _) _ _); first
 | ((with_reducible refine aL (c := (Code.seq (Code.region 2 _ _) _)) (ι := Nat) [0,7,8] (fun i => [(9, iA .i64 (i : Int))]) (fun i => []) (fun i => i <= n /\ (∀ i', i' < i -> AY S i')) (fun i => n - i) 0 ?lg2 ?l12 ?l22 ?li2 ?lr2); (case' lg2 => rintro i _); (case' li2 => try (exact ⟨Nat.zero_le _, fun i hi => absurd hi (Nat.not_lt_zero _)⟩)); (case' lr2 => rintro i ⟨hi, hai⟩ KR hR2; simp only [bf, bN, hset, lk, if_true, if_false, xE, reduceIte, zN]))
 | ((with_reducible refine aL (c := (Code.seq (Code.region 7 _ _) _)) (ι := Nat) [0,4,7,8,9,19,20] (fun j => [(21, iA .i64 (j : Int))]) (fun j => []) (fun j => j <= i /\ Yz S i = true /\ (∀ j', j' < j -> GX S i j' = false /\ GX S j' i = false)) (fun j => i - j) 0 ?lg7 ?l17 ?l27 ?li7 ?lr7); (case' lg7 => rintro j _); (case' li7 => try (exact ⟨Nat.zero_le _, by assumption, fun i hi => absurd hi (Nat.not_lt_zero _)⟩)); (case' lr7 => rintro j ⟨hj, hsi, haj⟩ KR hR7; simp only [bf, bN, hset, lk, if_true, if_false, xE, reduceIte, zN]))))
 | ((first | (with_reducible refine And.intro ?_ ?_) | (with_reducible refine Need.mk ?_)); focus (first | exact True.intro | omega | (intro _; (with_reducible assumption)) | (simp; done)))
 | (with_reducible refine aA ?_)
 | ((with_reducible show aY _ _ _ _ _ _); first
 | ((with_reducible refine aH ?_ ?_) <;> (intro hc; (try simp only [zB, zC, reduceCtorEq] at hc); (try (exfalso; contradiction)))))
 | ((with_reducible show aN _ _ _ _ _ _ _ _ _ _); first
 | (refine aj (k := 166) II (ah9 _ _ _ _ _ _) ?_ ?_)
 | (refine aj (k := 167) zu (Sr _ _ _ _ _ _ _ _ (xK hsi) (NI hsi) (xK (hai _ (by omega)).1)) ?_ ?_))
 | ((with_reducible show bK _ _ _ _ _ _ _ _ _ _); (refine aQ (k := 167) zu (fun hg => Sr _ _ _ _ _ _ _ _ (xK (hai _ (by omega)).1) (NI (hai _ (by omega)).1) (xK hsi)) ?_ ?_))
 | ((with_reducible refine hR2 _ (i + 1) ?_); (try clear hR2 KR))
 | ((with_reducible refine hR7 _ (j + 1) ?_); (try clear hR7 KR))
 | ((with_reducible refine Told.mk ?_); simp only [go_sem, reduceIte, reduceCtorEq, xA, xL, xD, xE, xM, xS, xB, bX] <;> ((((try simp (disch := omega) only [aJ, Int.natCast_add, Int.cast_ofNat_Int, and_true, true_and, and_self]); (repeat' (first | omega | (with_reducible refine And.intro ?_ ?_) | (exact all_succ (by assumption) (by assumption)) | ((exact all_succ (by assumption) ⟨by assumption, fun j hj => haj j (by omega)⟩)))); done))))
 | ((fail_if_success (with_reducible show AW _ _ _ _)); simp (maxSteps := 2000000) only [go_sem, reduceIte, reduceCtorEq, xA, xL, xD, xE, xM, xS, xB, Tryz.f143, bX])
 | ((with_reducible refine hK _ ?_); clear hK K)
 | (with_reducible apply_assumption -exfalso only [*]))
  all_goals (first | exact MZ (by assumption) (by assumption) | exact Or.elim (by assumption) (NJ (by omega) (by omega)) (NG (by omega) (by omega)) | exact SG (by assumption) (by assumption) (by assumption))
theorem WI (n : Nat) (S : Nat -> Nat -> Int) (hn : n <= 9223372036854775807) : au Tryz.prog 132 [.one (.lst 6 n (bX S))] (.t (.one (.g (.bool (nM n S))))) := by
  refine ah Tryz.func132 rfl (by rw [Tryz.ntmps132]; simp) ?_
  simp only [Tryz.ntmps132, zM, PT.tv, ak, Nat.zero_add, Nat.reduceAdd]
  repeat' (first
 | ((with_reducible show AW _ _ _ _); first
 | (with_reducible first | refine aS (fun K hK => ?_) | refine aI ?_ | refine aX ?_ | refine aT ?_ | refine aC ?_ | refine aB ?_)
 | (first
 | (with_reducible first | refine aP 0 [0] ?_ | refine aP 1 [0] ?_ | refine aP 2 [] ?_ | refine aP 3 [0] ?_ | refine aP 4 [0,3] ?_ | refine aP 5 [0,3] ?_ | refine aP 6 [0,3] ?_ | refine aP 7 [0,3,4] ?_ | refine aP 8 [] ?_ | refine aP 9 [0,3] ?_ | refine aP 10 [0,3,5] ?_ | refine aP 11 [0,3,5] ?_)
 | ((with_reducible refine aR (c := Code.region 12 _ true) [0,3,5] ?_); (with_reducible refine aD ?_ ?_ ?_ ?_); (focus kernel_rfl); (focus kernel_rfl); (focus kernel_rfl))
 | (with_reducible first | refine aP 13 [] ?_ | refine aP 14 [] ?_))
 | ((with_reducible show AW _ (Code.loop _) _ _); first
 | ((with_reducible refine aL (c := (Code.seq (Code.seq (Code.region 4 _ _) _) _)) (ι := Nat) [0] (fun i => [(3, iA .i64 (i : Int))]) (fun i => []) (fun i => i <= n /\ (∀ i', i' < i -> AY S i')) (fun i => n - i) 0 ?lg4 ?l14 ?l24 ?li4 ?lr4); (case' lg4 => rintro i _); (case' li4 => try (exact ⟨Nat.zero_le _, fun i hi => absurd hi (Nat.not_lt_zero _)⟩)); (case' lr4 => rintro i ⟨hi, hai⟩ KR hR4; simp only [bf, bN, hset, lk, if_true, if_false, xE, reduceIte, zN]))
 | ((with_reducible refine aL (c := (Code.seq (Code.seq (Code.region 10 _ _) _) _)) (ι := Nat) [0,3] (fun j => [(5, iA .i64 (j : Int))]) (fun j => []) (fun j => j <= i /\ Yz S i = true /\ (∀ j', j' < j -> GX S i j' = false /\ GX S j' i = false)) (fun j => i - j) 0 ?lg10 ?l110 ?l210 ?li10 ?lr10); (case' lg10 => rintro j _); (case' li10 => try (exact ⟨Nat.zero_le _, by assumption, fun i hi => absurd hi (Nat.not_lt_zero _)⟩)); (case' lr10 => rintro j ⟨hj, hsi, haj⟩ KR hR10; simp only [bf, bN, hset, lk, if_true, if_false, xE, reduceIte, zN]))))
 | ((first | (with_reducible refine And.intro ?_ ?_) | (with_reducible refine Need.mk ?_)); focus (first | exact True.intro | omega | (intro _; (with_reducible assumption)) | (intros; (repeat' (first | omega | (with_reducible refine And.intro ?_ ?_))); done) | (simp; done)))
 | (with_reducible refine aA ?_)
 | ((with_reducible show aY _ _ _ _ _ _); first
 | ((with_reducible refine aH ?_ ?_) <;> (intro hc; (try simp only [zB, zC, reduceCtorEq] at hc); (try (exfalso; contradiction)))))
 | ((with_reducible refine And.intro ?_ ?_); focus ((with_reducible show fB _ _ _ = true); kernel_rfl))
 | ((with_reducible show aN _ _ _ _ _ _ _ _ _ _); first
 | (refine aj (k := 157) FX (abS _ _ _ _ _ _) ?_ ?_))
 | ((with_reducible show dA _ _ _ _ _ _ _ _ _ _ _ _ _); (refine aV (k := 158) zY (Na _ _ _ _ _ _ (xK hsi) (NI hsi) (xK (hai _ (by omega)).1)) ?_ ?_))
 | ((with_reducible show jT _ _ _ _ _ _ _ _ _ _ _ _ _); (refine fZ (k := 158) zY (fun hg => Na _ _ _ _ _ _ (xK (hai _ (by omega)).1) (NI (hai _ (by omega)).1) (xK hsi)) ?_ ?_))
 | ((with_reducible refine hR4 _ (i + 1) ?_); (try clear hR4 KR))
 | ((with_reducible refine hR10 _ (j + 1) ?_); (try clear hR10 KR))
 | ((with_reducible refine Told.mk ?_); simp only [go_sem, reduceIte, reduceCtorEq, xA, xL, xD, xE, xM, xS, xB, bX] <;> ((((try simp (disch := omega) only [aJ, Int.natCast_add, Int.cast_ofNat_Int, and_true, true_and, and_self]); (repeat' (first | omega | (with_reducible refine And.intro ?_ ?_) | (exact all_succ (by assumption) (by assumption)) | ((exact all_succ (by assumption) ⟨by assumption, fun j hj => haj j (by omega)⟩)))); done))))
 | ((fail_if_success (with_reducible show AW _ _ _ _)); simp (maxSteps := 2000000) only [go_sem, reduceIte, reduceCtorEq, xA, xL, xD, xE, xM, xS, xB, Tryz.f132, bX])
 | ((with_reducible refine hK _ ?_); clear hK K)
 | (with_reducible apply_assumption -exfalso only [*]))
  all_goals (first | exact MZ (by assumption) (by assumption) | exact Or.elim (by assumption) (NJ (by omega) (by omega)) (NG (by omega) (by omega)) | exact VA (by assumption) | exact VG (by assumption) (by assumption) (by assumption) (by assumption))
end Go.Proofs.YtmnejmpjmniiiaaGreatDoor
set_option maxRecDepth 100000
set_option maxHeartbeats 4000000
namespace Go.Proofs.YtmnejmpjmniiiaaGreatDoor
open Go.RowKit Go.Sea
open Nat renaming reduceAdd -> xA, reduceLT -> xL, reduceLeDiff -> xD, reduceEqDiff -> xE, reduceMul -> xM, reduceSub -> xS, reduceBEq -> xB
theorem ac0 : BP Tryz.prog 185 = none := by kernel_rfl
theorem ahw : BP Tryz.prog 27 = none := by kernel_rfl
theorem Ie : aM Tryz.prog 189 = true := by kernel_rfl
theorem Im : aM Tryz.prog 190 = true := by kernel_rfl
theorem zO : aM Tryz.prog 181 = true := by kernel_rfl
theorem jX : aM Tryz.prog 182 = true := by kernel_rfl
theorem gX : aM Tryz.prog 183 = true := by kernel_rfl
theorem ql : aM Tryz.prog 202 = true := by kernel_rfl
theorem ab6 : uY Tryz.prog 185 = some true := by kernel_rfl
theorem aeT : uY Tryz.prog 27 = some true := by kernel_rfl
theorem adK : oU Tryz.prog 185 = some (2, 16, 62) := by kernel_rfl
theorem agH : oU Tryz.prog 27 = some (1, 8, 3) := by kernel_rfl
theorem ai6 : eX Tryz.prog 3 = some [.iv (.g (.int .i64 0))] := by kernel_rfl
attribute [go_sem] ac0 ahw Ie Im zO jX gX ql ab6 aeT adK agH ai6
def orV (a b : Int) : Int := if a = 0 then b else a
def R9 (x y u v : Int) : Int := orV (if x < u then -1 else if u < x then 1 else 0) (if y < v then -1 else if v < y then 1 else 0)
theorem Qn (a b : Int) (o : Nat) : f2 a b 0 o = .g (.int .i64 a) := rfl
theorem Qz (a b : Int) (o : Nat) : f2 a b 1 o = .g (.int .i64 b) := rfl
theorem ag5 {z : Int} : Bd z = 0 ↔ z = 0 := by
  unfold Bd; split
  · omega
  · split <;> omega
theorem Zy {ax ay bx by' cx cy : Int} : Kv ax ay bx by' cx cy = 0 ↔ (bx - ax) * (cy - ay) - (by' - ay) * (cx - ax) = 0 := ag5
theorem Mc (x y u v : Int) : (R9 x y u v >= 0) ↔ ¬ (x < u \/ (x = u /\ y < v)) := by
  unfold R9 orV
  repeat' split
  all_goals omega
theorem aiI (a b : Int) : au Tryz.prog 189 [.one (.lst 1 2 (f2 a b))] (.t (.one (.g (.int .i64 (orV a b))))) := by
  refine ah Tryz.func189 rfl (by rw [Tryz.ntmps189]; simp) ?_
  simp only [Tryz.ntmps189, zM, PT.tv, ak, Nat.zero_add, Nat.reduceAdd]
  repeat' (first
 | ((with_reducible show AW _ _ _ _); first
 | (with_reducible first | refine aS (fun K hK => ?_) | refine aI ?_ | refine aX ?_ | refine aT ?_ | refine aC ?_ | refine aB ?_)
 | (first
 | (with_reducible first | refine aP 0 [0] ?_ | refine aP 1 [0] ?_ | refine aP 2 [0,3] ?_ | refine aP 3 [3,6,7,8] ?_ | refine aP 4 [3,6,7,8] ?_ | refine aP 5 [3,5,6,7,8] ?_ | refine aP 6 [5] ?_ | refine aP 7 [3,6,7,8] ?_ | refine aP 8 [3] ?_))
 | ((with_reducible show AW _ (Code.loop _) _ _); first
 | ((with_reducible refine aL (c := (Code.seq (Code.region 3 _ _) _)) (ι := Nat) [3,6,7] (fun i => [(8, iA .i64 (i : Int))]) (fun i => []) (fun i => i <= 2 /\ (0 < i -> a = 0) /\ (1 < i -> b = 0)) (fun i => 2 - i) 0 ?lg3 ?l13 ?l23 ?li3 ?lr3); (case' lg3 => rintro i _); (case' li3 => try (exact ⟨by omega, by omega, by omega⟩)); (case' lr3 => rintro i ⟨hi, hx1, hx2⟩ KR hR3; (rcases (by omega : i = 0 \/ i = 1 \/ i = 2) with hz | hz | hz <;> subst hz); simp only [bf, bN, hset, lk, if_true, if_false, xE, reduceIte, zN, Qn, Qz]))))
 | (((with_reducible refine And.intro ?_ ?_)); focus (omega))
 | (with_reducible refine aA ?_)
 | ((with_reducible show aY _ _ _ _ _ _); first
 | ((with_reducible refine aH ?_ ?_) <;> (intro hc; (try simp only [zB, zC, reduceCtorEq] at hc); (try (exfalso; contradiction)))))
 | ((with_reducible refine hR3 _ 1 ?_); (try clear hR3 KR); (with_reducible refine Told.mk ?_); simp only [go_sem, reduceIte, reduceCtorEq, xA, xL, xD, xE, xM, xS, xB, Qn, Qz]; ((try simp (disch := omega) only [aJ, Int.natCast_add, Int.cast_ofNat_Int, and_true, true_and, and_self]); (repeat' (omega )); done))
 | ((with_reducible refine hR3 _ 2 ?_); (try clear hR3 KR); (with_reducible refine Told.mk ?_); simp only [go_sem, reduceIte, reduceCtorEq, xA, xL, xD, xE, xM, xS, xB, Qn, Qz]; (((try simp (disch := omega) only [aJ, Int.natCast_add, Int.cast_ofNat_Int, and_true, true_and, and_self]); (repeat' (omega )); done)))
 | ((with_reducible refine Told.mk ?_); simp only [go_sem, reduceIte, reduceCtorEq, xA, xL, xD, xE, xM, xS, xB, Qn, Qz] <;> ((((try simp (disch := omega) only [aJ, Int.natCast_add, Int.cast_ofNat_Int, and_true, true_and, and_self]); (repeat' (exact True.intro )); done))))
 | ((fail_if_success (with_reducible show AW _ _ _ _)); simp (maxSteps := 2000000) only [go_sem, reduceIte, reduceCtorEq, xA, xL, xD, xE, xM, xS, xB, Tryz.f189, Qn, Qz])
 | ((with_reducible refine hK _ ?_); clear hK K)
 | (with_reducible apply_assumption -exfalso only [*]))
  all_goals ((unfold orV; first | (rw [if_pos (by omega)]; omega) | (rw [if_neg (by omega)]) | (split <;> omega)))
theorem aiK (a b : Int) {F : Nat -> Nat -> IV} (hF : ∀ i o, i < 2 -> o < 1 -> (F i o).eqv (f2 a b i o)) : au Tryz.prog 189 [.one (.lst 1 2 F)] (.t (.one (.g (.int .i64 (orV a b))))) :=
  (aiI a b).eqv ⟨⟨rfl, rfl, hF⟩, trivial⟩ (PV.aG _)
theorem X7 (x y u v : Int) : au Tryz.prog 161 [.agg [.g (.int .i64 (x)), .g (.int .i64 (y))], .agg [.g (.int .i64 (u)), .g (.int .i64 (v))]] (.t (.one (.g (.int .i64 (R9 x y u v))))) := by
  refine ah Tryz.func161 rfl (by rw [Tryz.ntmps161]; simp) ?_
  simp only [Tryz.ntmps161, zM, PT.tv, ak, Nat.zero_add, Nat.reduceAdd]
  repeat' (first
 | ((with_reducible show dA _ _ _ _ _ _ _ _ _ _ _ _ _); first
 | ((refine aV (k := 189) Ie (aiK (if x < u then -1 else if u < x then 1 else 0) (if y < v then -1 else if v < y then 1 else 0) ?_) ?_ ?_); (focus (intro i o hi ho; rcases i with _ | _ | i <;> first | omega | (rcases o with _ | o <;> first | omega | exact IV.aG _))))
 | (refine aV (k := 88) yK (Ju x u) ?_ ?_)
 | (refine aV (k := 88) yK (Ju y v) ?_ ?_))
 | ((with_reducible show AW _ _ _ _); first
 | (with_reducible first | refine aS (fun K hK => ?_) | refine aT ?_)
 | (first
 | (with_reducible refine aP 0 [0,1] ?_)
 | ((with_reducible refine aR (c := Code.region 1 _ true) [2,3] ?_); (with_reducible refine aD ?_ ?_ ?_ ?_); (focus kernel_rfl); (focus kernel_rfl); (focus kernel_rfl))))
 | ((first | (with_reducible refine And.intro ?_ ?_) | (with_reducible refine Need.mk ?_)); focus (exact True.intro))
 | (with_reducible refine aA ?_)
 | ((with_reducible refine And.intro ?_ ?_); focus ((with_reducible show fB _ _ _ = true); kernel_rfl))
 | ((fail_if_success (with_reducible show AW _ _ _ _)); simp (maxSteps := 2000000) only [go_sem, reduceIte, reduceCtorEq, xA, xL, xD, xE, xM, xS, xB, Tryz.f161])
 | ((with_reducible refine hK _ ?_); clear hK K))
  all_goals (rfl)
theorem V3 (ax ay bx by' cx cy : Int) : au Tryz.prog 162 [.agg [.g (.int .i64 (ax)), .g (.int .i64 (ay))], .agg [.g (.int .i64 (bx)), .g (.int .i64 (by'))], .agg [.g (.int .i64 (cx)), .g (.int .i64 (cy))]] (.t (.one (.g (.int .i64 (tvV ax ay bx by' cx cy))))) := by
  refine ah Tryz.func162 rfl (by rw [Tryz.ntmps162]; simp) ?_
  simp only [Tryz.ntmps162, zM, PT.tv, ak, Nat.zero_add, Nat.reduceAdd]
  repeat' (first
 | ((with_reducible show AW _ _ _ _); first
 | (with_reducible first | refine aS (fun K hK => ?_) | refine aT ?_)
 | (first
 | (with_reducible first | refine aP 0 [0,1,2] ?_ | refine aP 1 [3,4,5] ?_ | refine aP 2 [7] ?_)))
 | (((with_reducible refine Need.mk ?_)); focus (exact True.intro))
 | (with_reducible refine aA ?_)
 | ((with_reducible show aN _ _ _ _ _ _ _ _ _ _); first
 | (refine aj (k := 190) Im (adz _ _ _ _ _ _) ?_ ?_))
 | ((fail_if_success (with_reducible show AW _ _ _ _)); simp (maxSteps := 2000000) only [go_sem, reduceIte, reduceCtorEq, xA, xL, xD, xE, xM, xS, xB, Tryz.f162])
 | ((with_reducible refine hK _ ?_); clear hK K))
def BO (n : Nat) (i : Int) : Nat := ((i + n) % n).toNat
theorem AB (n : Nat) (P : Nat -> Nat -> Int) (i : Int) (hn : 0 < n /\ n <= 1000) (hi : -1 <= i /\ i <= 1000) : au Tryz.prog 163 [.one (.lst 2 n (bX P)), .one (.g (.int .i64 (i)))] (.t (.agg [.g (.int .i64 (P (BO n i) 0)), .g (.int .i64 (P (BO n i) 1))])) := by
  have hm : 0 <= (i + (n : Int)) % (n : Int) /\ (i + (n : Int)) % (n : Int) < (n : Int) := ⟨Int.emod_nonneg _ (by omega), Int.emod_lt_of_pos _ (by omega)⟩
  refine ah Tryz.func163 rfl (by rw [Tryz.ntmps163]; simp) ?_
  simp only [Tryz.ntmps163, zM, PT.tv, ak, Nat.zero_add, Nat.reduceAdd]
  repeat' (first
 | ((with_reducible show AW _ _ _ _); first
 | (with_reducible first | refine aS (fun K hK => ?_) | refine aT ?_)
 | (first
 | (with_reducible first | refine aP 0 [0,1] ?_ | refine aP 1 [0,1,4] ?_)))
 | (((with_reducible refine And.intro ?_ ?_)); focus (first | (with_reducible assumption) | omega))
 | (with_reducible refine aA ?_)
 | ((fail_if_success (with_reducible show AW _ _ _ _)); simp (maxSteps := 2000000) only [go_sem, reduceIte, reduceCtorEq, xA, xL, xD, xE, xM, xS, xB, Tryz.f163, bX])
 | ((fail_if_success (with_reducible show AW _ _ _ _)); simp (disch := omega) only [aJ, dG, dH])
 | ((with_reducible refine hK _ ?_); clear hK K))
  all_goals (exact ⟨rfl, rfl⟩)
theorem Eh (px py ax ay bx by' : Int) (hp : dJ px py = true) (ha : dJ ax ay = true) (hb : dJ bx by' = true) : au Tryz.prog 202 [.agg [.g (.int .i64 (px)), .g (.int .i64 (py))], .agg [.g (.int .i64 (ax)), .g (.int .i64 (ay))], .agg [.g (.int .i64 (bx)), .g (.int .i64 (by'))]] (.t (.one (.g (.bool (Zx px py ax ay bx by'))))) := by
  have q1 := oP.1 hp
  have q2 := oP.1 ha
  have q3 := oP.1 hb
  have hX := tN ha hb hp
  refine ah Tryz.func202 rfl (by rw [Tryz.ntmps202]; simp) ?_
  simp only [Tryz.ntmps202, zM, PT.tv, ak, Nat.zero_add, Nat.reduceAdd]
  repeat' (first
 | ((with_reducible show AW _ _ _ _); first
 | (with_reducible first | refine aS (fun K hK => ?_) | refine aI ?_ | refine aT ?_ | refine aC ?_)
 | (first
 | (with_reducible refine aP 0 [0,1,2] ?_)
 | ((with_reducible refine aR (c := Code.region 1 _ true) [3,4,5] ?_); (with_reducible refine aD ?_ ?_ ?_ ?_); (focus kernel_rfl); (focus kernel_rfl); (focus kernel_rfl))
 | (with_reducible first | refine aP 2 [] ?_ | refine aP 3 [3,4,5] ?_)))
 | ((first | (with_reducible refine And.intro ?_ ?_) | (with_reducible refine Need.mk ?_)); focus (exact True.intro))
 | (with_reducible refine aA ?_)
 | ((with_reducible show aY _ _ _ _ _ _); first
 | ((with_reducible refine aH ?_ ?_) <;> (intro hc; (try simp only [zB, zC, reduceCtorEq] at hc); (try (exfalso; contradiction)))))
 | ((with_reducible refine And.intro ?_ ?_); focus ((with_reducible show fB _ _ _ = true); kernel_rfl))
 | ((with_reducible show dA _ _ _ _ _ _ _ _ _ _ _ _ _); first
 | (refine aV (k := 183) gX (iZ bx by' ax ay (by omega) (by omega)) ?_ ?_)
 | (refine aV (k := 183) gX (iZ px py ax ay (by omega) (by omega)) ?_ ?_)
 | (refine aV (k := 182) jX (lH (bx - ax) (by' - ay) (px - ax) (py - ay) hX.1 hX.2) ?_ ?_))
 | ((fail_if_success (with_reducible show AW _ _ _ _)); simp (maxSteps := 2000000) only [go_sem, reduceIte, reduceCtorEq, xA, xL, xD, xE, xM, xS, xB, Tryz.f202])
 | ((with_reducible refine hK _ ?_); clear hK K))
  all_goals (first | (refine (decide_eq_false fun g => ?_).symm; exact absurd (Zy.1 g.1) (by assumption)) | (unfold Zx; refine Bool.eq_iff_iff.2 ?_; simp only [Bool.and_eq_true, decide_eq_true_eq, Zy, crs, ge_iff_le]; omega))
theorem KE (ax ay bx by' cx cy dx dy : Int) (qa : dJ ax ay = true) (qb : dJ bx by' = true) (qc : dJ cx cy = true) (qd : dJ dx dy = true) : au Tryz.prog 184 [.agg [.g (.int .i64 (ax)), .g (.int .i64 (ay))], .agg [.g (.int .i64 (bx)), .g (.int .i64 (by'))], .agg [.g (.int .i64 (cx)), .g (.int .i64 (cy))], .agg [.g (.int .i64 (dx)), .g (.int .i64 (dy))]] (.t (.one (.g (.bool (pG ax ay bx by' cx cy dx dy))))) := by
  have pa := oP.1 qa
  have pb := oP.1 qb
  have pc := oP.1 qc
  have pd := oP.1 qd
  have x0 := tN qa qb qc
  have x1 := tN qa qb qd
  have x2 := tN qc qd qa
  have x3 := tN qc qd qb
  have t1 := qj ax ay bx by' cx cy
  have t2 := qj ax ay bx by' dx dy
  have t3 := qj cx cy dx dy ax ay
  have t4 := qj cx cy dx dy bx by'
  have m1 := j6 t1 t2
  have m2 := j6 t3 t4
  unfold Kv crs at m1 m2
  refine ah Tryz.func184 rfl (by rw [Tryz.ntmps184]; simp) ?_
  simp only [Tryz.ntmps184, zM, PT.tv, ak, Nat.zero_add, Nat.reduceAdd]
  repeat' (first
 | ((with_reducible show AW _ _ _ _); first
 | (with_reducible first | refine aS (fun K hK => ?_) | refine aI ?_ | refine aT ?_ | refine aC ?_)
 | (first
 | (with_reducible first | refine aP 0 [0,1,2,3] ?_ | refine aP 1 [4,5,6,7] ?_ | refine aP 2 [] ?_)
 | ((with_reducible refine aR (c := Code.region 3 _ true) [4,5,6,7] ?_); (with_reducible refine aD ?_ ?_ ?_ ?_); (focus kernel_rfl); (focus kernel_rfl); (focus kernel_rfl))
 | ((with_reducible refine aR (c := Code.region 4 _ true) [4,5,6,7,9] ?_); (with_reducible refine aD ?_ ?_ ?_ ?_); (focus kernel_rfl); (focus kernel_rfl); (focus kernel_rfl))
 | (with_reducible refine aP 5 [9,10] ?_)))
 | ((first | (with_reducible refine And.intro ?_ ?_) | (with_reducible refine Need.mk ?_)); focus (first | exact True.intro | (intro _; (with_reducible assumption)) | (simp; done)))
 | (with_reducible refine aA ?_)
 | ((with_reducible show aY _ _ _ _ _ _); first
 | ((with_reducible refine aH ?_ ?_) <;> (intro hc; (try simp only [zB, zC, reduceCtorEq] at hc); (try (exfalso; contradiction)))))
 | ((with_reducible refine And.intro ?_ ?_); focus ((with_reducible show fB _ _ _ = true); kernel_rfl))
 | ((with_reducible show aN _ _ _ _ _ _ _ _ _ _); (refine aj (k := 202) ql (Eh _ _ _ _ _ _ qa qc qd) ?_ ?_))
 | ((with_reducible show bK _ _ _ _ _ _ _ _ _ _); first
 | (refine aQ (k := 202) ql (fun hg => Eh _ _ _ _ _ _ qb qc qd) ?_ ?_)
 | (refine aQ (k := 202) ql (fun hg => Eh _ _ _ _ _ _ qc qa qb) ?_ ?_)
 | (refine aQ (k := 202) ql (fun hg => Eh _ _ _ _ _ _ qd qa qb) ?_ ?_))
 | ((with_reducible show dA _ _ _ _ _ _ _ _ _ _ _ _ _); first
 | (refine aV (k := 183) gX (iZ bx by' ax ay pb pa) ?_ ?_)
 | (refine aV (k := 183) gX (iZ cx cy ax ay pc pa) ?_ ?_)
 | (refine aV (k := 183) gX (iZ dx dy ax ay pd pa) ?_ ?_)
 | (refine aV (k := 183) gX (iZ dx dy cx cy pd pc) ?_ ?_)
 | (refine aV (k := 183) gX (iZ ax ay cx cy pa pc) ?_ ?_)
 | (refine aV (k := 183) gX (iZ bx by' cx cy pb pc) ?_ ?_)
 | (refine aV (k := 182) jX (lH (bx - ax) (by' - ay) (cx - ax) (cy - ay) x0.1 x0.2) ?_ ?_)
 | (refine aV (k := 182) jX (lH (bx - ax) (by' - ay) (dx - ax) (dy - ay) x1.1 x1.2) ?_ ?_)
 | (refine aV (k := 182) jX (lH (dx - cx) (dy - cy) (ax - cx) (ay - cy) x2.1 x2.2) ?_ ?_)
 | (refine aV (k := 182) jX (lH (dx - cx) (dy - cy) (bx - cx) (by' - cy) x3.1 x3.2) ?_ ?_)
 | (refine aV (k := 181) zO (LY _) ?_ ?_))
 | ((fail_if_success (with_reducible show AW _ _ _ _)); simp (maxSteps := 2000000) only [go_sem, reduceIte, reduceCtorEq, xA, xL, xD, xE, xM, xS, xB, Tryz.f184])
 | ((fail_if_success (with_reducible show AW _ _ _ _)); simp (disch := omega) only [aJ, dG, dH])
 | ((with_reducible refine hK _ ?_); clear hK K))
  all_goals (first | (unfold pG; refine Bool.eq_iff_iff.2 ?_; simp only [Bool.or_eq_true, Bool.and_eq_true, decide_eq_true_eq, true_iff]; exact Or.inr hc) | (obtain ⟨⟨⟨e1, e2⟩, e3⟩, e4⟩ := hc; unfold pG; rw [e1, e2, e3, e4]; unfold Kv crs; refine Bool.eq_iff_iff.2 ?_; simp only [Bool.or_false, Bool.and_eq_true, decide_eq_true_eq]))
end Go.Proofs.YtmnejmpjmniiiaaGreatDoor
