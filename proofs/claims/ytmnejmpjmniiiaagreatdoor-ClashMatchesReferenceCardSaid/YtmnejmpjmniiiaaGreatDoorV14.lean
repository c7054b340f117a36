/- Part 14 of 18: contracts of functions and plain laws for the root text. No condition. -/
import Derived.Test.YtmnejmpjmniiiaaGreatDoorV01
import Derived.Test.YtmnejmpjmniiiaaGreatDoorV02
import Derived.Test.YtmnejmpjmniiiaaGreatDoorV03
import Derived.Test.YtmnejmpjmniiiaaGreatDoorV04
import Derived.Test.YtmnejmpjmniiiaaGreatDoorV05
import Derived.Test.YtmnejmpjmniiiaaGreatDoorV06
import Derived.Test.YtmnejmpjmniiiaaGreatDoorV07
import Derived.Test.YtmnejmpjmniiiaaGreatDoorV08
import Derived.Test.YtmnejmpjmniiiaaGreatDoorV09
import Derived.Test.YtmnejmpjmniiiaaGreatDoorV10
import Derived.Test.YtmnejmpjmniiiaaGreatDoorV11
import Derived.Test.YtmnejmpjmniiiaaGreatDoorV12
import Derived.Test.YtmnejmpjmniiiaaGreatDoorV13
set_option linter.unusedVariables false
set_option linter.unusedSimpArgs false
set_option linter.unusedSectionVars false
set_option linter.deprecated false
set_option maxRecDepth 100000
set_option maxHeartbeats 4000000
namespace Go.Proofs.YtmnejmpjmniiiaaGreatDoor
open Go.RowKit Go.Sea
open Nat renaming reduceAdd -> xA, reduceLT -> xL, reduceLeDiff -> xD, reduceEqDiff -> xE, reduceMul -> xM, reduceSub -> xS, reduceBEq -> xB
theorem DW : aM Tryz.prog 46 = true := by kernel_rfl
theorem Yi : aM Tryz.prog 47 = true := by kernel_rfl
theorem Yy : aM Tryz.prog 50 = true := by kernel_rfl
theorem kP : aM Tryz.prog 51 = true := by kernel_rfl
theorem ET : aM Tryz.prog 52 = true := by kernel_rfl
theorem El : aM Tryz.prog 53 = true := by kernel_rfl
theorem Yb : aM Tryz.prog 56 = true := by kernel_rfl
theorem V6 : aM Tryz.prog 57 = true := by kernel_rfl
theorem uL : aM Tryz.prog 58 = true := by kernel_rfl
theorem Nc : aM Tryz.prog 80 = true := by kernel_rfl
theorem afQ : mU Tryz.prog 94 = some (false, 1) := by kernel_rfl
theorem agu : mU Tryz.prog 96 = some (false, 1) := by kernel_rfl
theorem aeK : eX Tryz.prog 68 = some [.iv (.g (.pointer none))] := by kernel_rfl
attribute [go_sem] DW kP ET El uL afQ agu aeK
def gT (s t : Nat) : Bool := decide (cnt t < cnt s) || (decide (cnt t = cnt s) && xU t s)
def iY (s t : Nat) : Bool := decide (cnt s < cnt t) || (decide (cnt t = cnt s) && xU t s)
def iK (w : Nat -> Nat -> Bool) (g : Nat -> Bool) : Nat -> Nat × Bool
  | 0 => (0, false)
  | s + 1 => if ((!(iK w g s).2 || w (iK w g s).1 s) && g s) = true then (s, true) else iK w g s
theorem EH (w : Nat -> Nat -> Bool) (g : Nat -> Bool) (s : Nat) :
    ((iK w g s).2 = false /\ True /\ g s = true /\ iK w g (s + 1) = (s, true)) \/ ((iK w g s).2 = false /\ True /\ g s = false /\ iK w g (s + 1) = iK w g s) ∨
    ((iK w g s).2 = true /\ w (iK w g s).1 s = false /\ True /\ iK w g (s + 1) = iK w g s) \/ ((iK w g s).2 = true /\ w (iK w g s).1 s = true /\ g s = true /\ iK w g (s + 1) = (s, true)) ∨
    ((iK w g s).2 = true /\ w (iK w g s).1 s = true /\ g s = false /\ iK w g (s + 1) = iK w g s) := by
  have e : iK w g (s + 1) = if ((!(iK w g s).2 || w (iK w g s).1 s) && g s) = true then (s, true) else iK w g s := rfl
  rw [e]
  cases (iK w g s).2 <;> cases w (iK w g s).1 s <;> cases g s <;> simp
theorem Df (w : Nat -> Nat -> Bool) (g : Nat -> Bool) : iK w g 0 = (0, false) := rfl
theorem ou {w : Nat -> Nat -> Bool} {g : Nat -> Bool} {m : Nat} : ∀ {s : Nat}, s <= 2 ^ m -> iV m (iK w g s).1
  | 0, _ => Nat.pow_pos (by decide)
  | s + 1, h => by
    have ih := ou (w := w) (g := g) (m := m) (s := s) (by omega)
    rcases EH w g s with e | e | e | e | e <;> rw [e.2.2.2]
    all_goals first | exact ih | exact (show s < 2 ^ m by omega)
theorem Br {x : bF} (he : cB x = 0) {s : Nat} (h : iV x.m s) : iV x.m (iR (dU x) s) := by
  obtain ⟨hv, _, _, _, hm, _⟩ := cK he
  have key : ∀ (l : List Nat) (a : Nat), a < 2 ^ x.m -> (∀ i, i ∈ l -> i < x.m) -> Mj (dU x) a l < 2 ^ x.m := by
    intro l
    induction l with
    | nil => intro a h _; exact h
    | cons i l ih =>
      intro a ha hl
      have hi := hl i (List.mem_cons_self ..)
      exact ih _ (Nat.or_lt_two_pow ha (Nat.lt_trans (qV hv hm hi) (Nat.pow_lt_pow_right (by decide) hi))) fun j hj => hl j (List.mem_cons_of_mem _ hj)
  exact key (bl s) s h fun i hi => rP h hi
theorem all_in (m : Nat) : iV m (2 ^ m - 1) := by have : 0 < 2 ^ m := Nat.pow_pos (by decide); show 2 ^ m - 1 < 2 ^ m; omega
def pq (x : bF) (s : Nat) : Bool := !dS (iU x) (iR (dU x) s)
def vW (x : bF) (s : Nat) : Bool := dS (iU x) s
def Jq (x : bF) : Nat × Bool := iK gT (pq x) (2 ^ x.m)
def rpB (x : bF) : Nat × Bool := iK iY (vW x) (2 ^ x.m)
def xX (x : bF) : Int := if cB x = 0 then (if (Jq x).2 = true then 0 else 4) else cB x
def kM (x : bF) : List Int := if cB x = 0 then (if (Jq x).2 = true then xR x.S (bl (Jq x).1) else []) else []
def qw (x : bF) : List Int := if cB x = 0 then xR x.S (bl (rpB x).1) else []
def nk (P : Nat -> Nat) (m i : Nat) : Nat -> Nat
  | 0 => (2 ^ m - 1) ^^^ ((2 ^ m - 1) &&& 2 ^ i)
  | k + 1 => if (P k).testBit i = true then nk P m i k ^^^ (nk P m i k &&& 2 ^ k) else nk P m i k
theorem ZC {P : Nat -> Nat} {m i k : Nat} (h : (P k).testBit i = true) : nk P m i (k + 1) = nk P m i k ^^^ (nk P m i k &&& 2 ^ k) := if_pos h
theorem aap {P : Nat -> Nat} {m i k : Nat} (h : (P k).testBit i = false) : nk P m i (k + 1) = nk P m i k := if_neg (by rw [h]; simp)
theorem DZ {P : Nat -> Nat} {m i : Nat} : ∀ k, iV m (nk P m i k)
  | 0 => Nat.xor_lt_two_pow (all_in m) (Nat.lt_of_le_of_lt Nat.and_le_left (all_in m))
  | k + 1 => by
    have := DZ (P := P) (m := m) (i := i) k
    show (if _ then _ else _) < _
    split
    · exact Nat.xor_lt_two_pow this (Nat.lt_of_le_of_lt Nat.and_le_left this)
    · exact this
def MH (x : bF) : Nat -> List Int
  | 0 => []
  | i + 1 => if dS (iU x) (nk (dU x) x.m i x.m) = true then MH x i ++ [(x.S i).nu] else MH x i
theorem A9 (x : bF) : MH x 0 = [] := rfl
theorem ZT {x : bF} {i : Nat} (h : dS (iU x) (nk (dU x) x.m i x.m) = true) : MH x (i + 1) = MH x i ++ [(x.S i).nu] := if_pos h
theorem Nh {x : bF} {i : Nat} (h : dS (iU x) (nk (dU x) x.m i x.m) = false) : MH x (i + 1) = MH x i := if_neg (by rw [h]; simp)
theorem EY (x : bF) : ∀ i, (MH x i).length <= i
  | 0 => Nat.le_refl _
  | i + 1 => by
    have := EY x i
    show (if _ then _ else _ : List Int).length <= _
    split
    · simp; omega
    · omega
def Kw (x : bF) : Int := if cB x = 0 then (if dS (iU x) (2 ^ x.m - 1) = true then 4 else 0) else cB x
def oJ (x : bF) : List Int := if cB x = 0 then (if dS (iU x) (2 ^ x.m - 1) = true then [] else MH x x.m) else []
theorem su (x : bF) : (iU x).x = x := rfl
theorem afo {s : Nat} (h : s < 1024) : IntKind.u64.wrap ((s : Int) + 1) = ((s + 1 : Nat) : Int) := by rw [IntKind.wrap_u64]; omega
theorem abd (s t : Nat) (hs : s < 1024) (ht : t < 1024) : au Tryz.prog 50 [.one (.g (.int .u64 ((s : Int)))), .one (.g (.int .u64 ((t : Int))))] (.t (.one (.g (.bool (gT s t))))) := by
  refine ah Tryz.func50 rfl (by rw [Tryz.ntmps50]; simp) ?_
  simp only [Tryz.ntmps50, zM, PT.tv, ak, Nat.zero_add, Nat.reduceAdd]
  repeat' (first
 | ((with_reducible show AW _ _ _ _); first
 | (with_reducible first | refine aS (fun K hK => ?_) | refine aT ?_)
 | (first
 | (with_reducible first | refine aP 0 [0,1] ?_ | refine aP 1 [0,1] ?_)))
 | ((first | (with_reducible refine And.intro ?_ ?_) | (with_reducible refine Need.mk ?_)); focus (first | exact True.intro | (intro _; (with_reducible assumption)) | (simp; done) | (simp; omega)))
 | (with_reducible refine aA ?_)
 | ((with_reducible show aN _ _ _ _ _ _ _ _ _ _); first
 | (refine aj (k := 51) kP (oV t ht) ?_ ?_)
 | (refine aj (k := 51) kP (oV s hs) ?_ ?_))
 | ((with_reducible show bK _ _ _ _ _ _ _ _ _ _); first
 | (refine aQ (k := 51) kP (fun hg => oV t ht) ?_ ?_)
 | (refine aQ (k := 51) kP (fun hg => oV s hs) ?_ ?_)
 | (refine aQ (k := 52) ET (fun hg => ZH t s ht hs) ?_ ?_))
 | ((fail_if_success (with_reducible show AW _ _ _ _)); simp (maxSteps := 2000000) only [go_sem, reduceIte, reduceCtorEq, xA, xL, xD, xE, xM, xS, xB, Tryz.f50])
 | ((with_reducible refine hK _ ?_); clear hK K))
  all_goals (have e1 : decide ((cnt t : Int) < cnt s) = decide (cnt t < cnt s) := decide_eq_decide.2 (by omega); have e2 : ((cnt t : Int) == cnt s) = decide (cnt t = cnt s) := (by rw [Bool.eq_iff_iff]; simp only [beq_iff_eq, decide_eq_true_eq]; omega); rw [e1, e2]; rfl)
theorem acn (s t : Nat) (hs : s < 1024) (ht : t < 1024) : au Tryz.prog 57 [.one (.g (.int .u64 ((s : Int)))), .one (.g (.int .u64 ((t : Int))))] (.t (.one (.g (.bool (iY s t))))) := by
  refine ah Tryz.func57 rfl (by rw [Tryz.ntmps57]; simp) ?_
  simp only [Tryz.ntmps57, zM, PT.tv, ak, Nat.zero_add, Nat.reduceAdd]
  repeat' (first
 | ((with_reducible show AW _ _ _ _); first
 | (with_reducible first | refine aS (fun K hK => ?_) | refine aT ?_)
 | (first
 | (with_reducible first | refine aP 0 [0,1] ?_ | refine aP 1 [0,1] ?_)))
 | ((first | (with_reducible refine And.intro ?_ ?_) | (with_reducible refine Need.mk ?_)); focus (first | exact True.intro | (intro _; (with_reducible assumption)) | (simp; done) | (simp; omega)))
 | (with_reducible refine aA ?_)
 | ((with_reducible show aN _ _ _ _ _ _ _ _ _ _); first
 | (refine aj (k := 51) kP (oV t ht) ?_ ?_)
 | (refine aj (k := 51) kP (oV s hs) ?_ ?_))
 | ((with_reducible show bK _ _ _ _ _ _ _ _ _ _); first
 | (refine aQ (k := 51) kP (fun hg => oV t ht) ?_ ?_)
 | (refine aQ (k := 51) kP (fun hg => oV s hs) ?_ ?_)
 | (refine aQ (k := 52) ET (fun hg => ZH t s ht hs) ?_ ?_))
 | ((fail_if_success (with_reducible show AW _ _ _ _)); simp (maxSteps := 2000000) only [go_sem, reduceIte, reduceCtorEq, xA, xL, xD, xE, xM, xS, xB, Tryz.f57])
 | ((with_reducible refine hK _ ?_); clear hK K))
  all_goals (have e1 : decide ((cnt t : Int) > cnt s) = decide (cnt s < cnt t) := decide_eq_decide.2 (by omega); have e2 : ((cnt t : Int) == cnt s) = decide (cnt t = cnt s) := (by rw [Bool.eq_iff_iff]; simp only [beq_iff_eq, decide_eq_true_eq]; omega); rw [e1, e2]; rfl)
theorem abA (x : bF) (hx : x.Ok) (he : cB x ≠ 0) : au Tryz.prog 21 [.one (.lst 9 x.n (bq x.f)), .one (.lst 2 x.m (fA x.S)), .one (.lst 1 x.mo (iJ x.O))] (.tup [.one (.lst 1 (kM x).length (bG (zL (kM x)))), .one (.g (.int .i64 (xX x)))]) := by
  refine ah Tryz.func21 rfl (by rw [Tryz.ntmps21]; simp) ?_
  simp only [Tryz.ntmps21, zM, PT.tv, ak, Nat.zero_add, Nat.reduceAdd]
  repeat' (first
 | ((with_reducible show AW _ _ _ _); first
 | (with_reducible first | refine aS (fun K hK => ?_) | refine aT ?_ | refine aC ?_)
 | (first
 | (with_reducible first | refine aP 0 [0,1,2] ?_ | refine aP 1 [0,1,2] ?_ | refine aP 2 [8,9] ?_ | refine aP 3 [9] ?_)))
 | ((first | (with_reducible refine And.intro ?_ ?_) | (with_reducible refine Need.mk ?_)); focus (exact True.intro))
 | (with_reducible refine aA ?_)
 | ((with_reducible show aY _ _ _ _ _ _); first
 | ((with_reducible refine aH ?_ ?_) <;> (intro hc; (try simp only [zB, zC, reduceCtorEq] at hc); ((try (exfalso; omega))); (try (exfalso; contradiction)))))
 | ((with_reducible show aN _ _ _ _ _ _ _ _ _ _); first
 | (refine aj (k := 37) jr (Ir x hx he) ?_ ?_))
 | ((fail_if_success (with_reducible show AW _ _ _ _)); simp (maxSteps := 2000000) only [go_sem, reduceIte, reduceCtorEq, xA, xL, xD, xE, xM, xS, xB, Tryz.f21])
 | ((with_reducible refine hK _ ?_); clear hK K))
  all_goals ((unfold kM xX; rw [if_neg he, if_neg he]; exact ⟨rfl, rfl⟩))
theorem ajo {x : bF} {s : Nat} {b : Bool} (h : pq x s = b) : dS (iU x) (iR (dU x) s) = !b := by rw [<- h]; unfold pq; rw [Bool.not_not]
theorem abV (x : bF) (hx : x.Ok) (he : cB x = 0) : au Tryz.prog 21 [.one (.lst 9 x.n (bq x.f)), .one (.lst 2 x.m (fA x.S)), .one (.lst 1 x.mo (iJ x.O))] (.tup [.one (.lst 1 (kM x).length (bG (zL (kM x)))), .one (.g (.int .i64 (xX x)))]) := by
  obtain ⟨_, _, _, _, hm, _⟩ := cK he
  have h2p : 0 < 2 ^ x.m := Nat.pow_pos (by decide)
  have mk0 : True := trivial
  have mk1 : True := trivial
  have hf : True := trivial
  have hw : True := trivial
  have hg : True := trivial
  have hbs : True := trivial
  have hsw : True := trivial
  have hig : True := trivial
  refine ah Tryz.func21 rfl (by rw [Tryz.ntmps21]; simp) ?_
  simp only [Tryz.ntmps21, zM, PT.tv, ak, Nat.zero_add, Nat.reduceAdd]
  repeat' (first
 | ((with_reducible show iT _ _ false _ _ _ _); (with_reducible refine iy (fun h => by cases h) (fun _ => ?_)))
 | ((with_reducible show iT _ _ true (Oper.mk _ (Op.call _) _ _ _ _) _ _ _); (with_reducible refine iy (fun _ => ?_) (fun h => by cases h)))
 | ((with_reducible show AW _ _ _ _); first
 | (with_reducible first | refine aS (fun K hK => ?_) | refine aI ?_ | refine aX ?_ | refine aT ?_ | refine aC ?_ | refine aB ?_)
 | (first
 | (with_reducible first | refine aP (ops := #[⟨some 6, _, _, _, _, _⟩, _]) 0 [0,1,2] ?_ | refine aP (ops := #[⟨some 4, _, _, _, _, _⟩, _, _, _]) 0 [0,1,2] ?_ | refine aP (ops := #[⟨some 6, _, _, _, _, _⟩, _, _, _, _, _, _, _, _, _, _, _, _]) 0 [0,1,2,3,4] ?_ | refine aP (ops := #[⟨some 3, _, _, _, _, _⟩]) 0 [0,1] ?_ | refine aP (ops := #[⟨some 13, _, _, _, _, _⟩, _, _, _, _, _, _, _, _, _]) 1 [0,1,2] ?_ | refine aP (ops := #[⟨some 8, _, _, _, _, _⟩]) 1 [0,4,5] ?_ | refine aP (ops := #[⟨some 19, _, _, _, _, _⟩, _, _]) 1 [0,1,3] ?_)
 | ((with_reducible refine aR (c := Code.region 1 _ true) [0,1] ?_); (with_reducible refine aD ?_ ?_ ?_ ?_); (focus kernel_rfl); (focus kernel_rfl); (focus kernel_rfl))
 | (with_reducible first | refine aP (ops := #[⟨some 19, _, _, _, _, _⟩, _]) 2 [8,9] ?_ | refine aP (ops := #[⟨some 9, _, _, _, _, _⟩, _]) 2 [0,4,5,8] ?_ | refine aP (ops := #[⟨some 14, _, _, _, _, _⟩, _, _]) 2 [5] ?_ | refine aP (ops := #[⟨some 12, _, _, _, _, _⟩, _]) 3 [0,4,5,8,9] ?_ | refine aP (ops := #[⟨some 23, _, _, _, _, _⟩, _, _, _, _, _, _, _]) 4 [8] ?_ | refine aP (ops := #[⟨some 11, _, _, _, _, _⟩]) 4 [0,8,9,10] ?_ | refine aP (ops := #[⟨some 28, _, _, _, _, _⟩, _]) 5 [8,10,11] ?_ | refine aP (ops := #[⟨some 13, _, _, _, _, _⟩, _, _, _]) 5 [0,8,9,10,11] ?_ | refine aP (ops := #[⟨some 6, _, _, _, _, _⟩, _]) 6 [] ?_ | refine aP (ops := #[⟨some 17, _, _, _, _, _⟩, _, _]) 6 [0,8,9,10,11] ?_ | refine aP (ops := #[⟨some 30, _, _, _, _, _⟩, _, _, _, _]) 7 [8,10] ?_ | refine aP (ops := #[⟨some 19, _, _, _, _, _⟩, _, _]) 7 [0,8,9,10,11] ?_)
 | ((with_reducible refine aR (c := Code.region 8 _ true) [8,9] ?_); (with_reducible refine aD ?_ ?_ ?_ ?_); (focus kernel_rfl); (focus kernel_rfl); (focus kernel_rfl)))
 | ((with_reducible show AW _ (Code.loop _) _ _); first
 | ((with_reducible refine aL (c := (Code.seq (Code.seq (Code.region 5 _ _) _) _)) (ι := Nat) [0,8,9,10] (fun s => [(11, .t (.one (.iv (.g (.int .u64 (s : Int))))))]) (fun s => [(3, [.iv (.g (.int .u64 ((iK gT (pq x) s).1 : Nat)))]), (4, [.iv (.g (.bool (iK gT (pq x) s).2))])]) (fun s => s <= 2 ^ x.m) (fun s => 2 ^ x.m - s) 0 ?lg5 ?l15 ?l25 ?li5 ?lr5); (case' lg5 => rintro s _); (case' li5 => try (exact Nat.zero_le _)); (case' lr5 => rintro s hsI KR hR5; simp only [bf, bN, hset, lk, if_true, if_false, xE, reduceIte, zN, su, he, hf, hw, hbs, hsw, hig, Df]))))
 | ((first | (with_reducible refine And.intro ?_ ?_) | (with_reducible refine Need.mk ?_)); focus (exact True.intro))
 | (with_reducible refine aA ?_)
 | ((with_reducible show aY _ _ _ _ _ _); first
 | ((with_reducible refine aH ?_ ?_) <;> (intro hc; (try simp only [zB, zC, reduceCtorEq] at hc); ((try (exfalso; omega)); (try (clear mk0 hf hw hg hbs hsw hig; have hin : iV x.m s := (by show s < 2 ^ x.m; omega); have hbi := ou (w := gT) (g := (pq x)) (m := x.m) (s := s) hsI; have hs1 := dP hm hin; have hsw := afo hs1; rcases EH gT (pq x) s with ⟨hf, hw, hg, hbs⟩ | ⟨hf, hw, hg, hbs⟩ | ⟨hf, hw, hg, hbs⟩ | ⟨hf, hw, hg, hbs⟩ | ⟨hf, hw, hg, hbs⟩; all_goals (first | (have hig := ajo hg) | (have hig := hw)))); (try (clear mk1; have e0 : s = 2 ^ x.m := (by omega); subst e0; have hbi := ou (w := gT) (g := (pq x)) (m := x.m) (s := 2 ^ x.m) hsI))); (try (exfalso; contradiction)))))
 | ((with_reducible refine And.intro ?_ ?_); focus ((with_reducible show fB _ _ _ = true); kernel_rfl))
 | ((with_reducible show aN _ _ _ _ _ _ _ _ _ _); first
 | (refine aj (k := 37) jr (GH x hx he) ?_ ?_)
 | (refine aj (k := 58) uL (MW (iU x) (jO hx he)) ?_ ?_)
 | (refine aj (k := 50) Yy (abd (iK gT (pq x) s).1 s (dP hm hbi) (dP hm hin)) ?_ ?_)
 | (refine aj (k := 53) El (ZI (iU x) (jO hx he) (iK gT (pq x) (2 ^ x.m)).1 hbi) ?_ ?_)
 | ((refine bY (k := 46) Tryz.func46 rfl DW (by rw [Tryz.ntmps46]; simp) ?_ ?_ (fun K hK => ?_)); (focus (exact True.intro)); (focus ((simp [iM]; done))); simp only [Tryz.ntmps46, List.map_cons, List.map_nil, List.nil_append, List.cons_append, List.append_nil, LV.tv, ak, Nat.zero_add, Nat.reduceAdd])
 | ((refine gK (k := 80) Tryz.func80 rfl Nc (by rw [Tryz.ntmps80]; simp) ?_ ?_ (fun K hK => ?_)); (focus (exact True.intro)); (focus ((simp [iM]; done))); simp only [Tryz.ntmps80, List.map_cons, List.map_nil, List.nil_append, List.cons_append, List.append_nil, LV.tv, ak, Nat.zero_add, Nat.reduceAdd])
 | ((refine gK (k := 47) Tryz.func47 rfl Yi (by rw [Tryz.ntmps47]; simp) ?_ ?_ (fun K hK => ?_)); (focus (exact True.intro)); (focus ((simp [iM]; done))); simp only [Tryz.ntmps47, List.map_cons, List.map_nil, List.nil_append, List.cons_append, List.append_nil, LV.tv, ak, Nat.zero_add, Nat.reduceAdd]))
 | ((with_reducible show dA _ _ _ _ _ _ _ _ _ _ _ _ _); first
 | (refine aV (k := 48) qZ (Fw (iU x) (jO hx he) (iR (dU x) s) (Br he hin)) ?_ ?_)
 | (refine aV (k := 49) EN (aau (iU x) (jO hx he) s hin) ?_ ?_))
 | ((with_reducible refine hR5 _ (s + 1) ?_); (try clear hR5 KR))
 | ((with_reducible refine Told.mk ?_); simp only [go_sem, reduceIte, reduceCtorEq, xA, xL, xD, xE, xM, xS, xB, su, he, hf, hw, hbs, hsw, hig, Df] <;> ((((try simp (disch := omega) only [aJ, Int.natCast_add, Int.cast_ofNat_Int, and_true, true_and, and_self]); (repeat' (omega)); done))))
 | ((fail_if_success (with_reducible show AW _ _ _ _)); simp (maxSteps := 2000000) only [go_sem, reduceIte, reduceCtorEq, xA, xL, xD, xE, xM, xS, xB, Tryz.f21, Tryz.f46, Tryz.f80, Tryz.f47, su, he, hf, hw, hbs, hsw, hig, Df])
 | ((with_reducible refine hK _ ?_); clear hK K)
 | (with_reducible apply_assumption -exfalso only [*]))
  all_goals first
    | (unfold kM xX Jq; rw [if_pos he, if_pos he, if_pos hc, if_pos hc]; exact ⟨⟨(kQ _ _).symm, fun i o _ _ => IV.aG _⟩, rfl⟩)
    | (unfold kM xX Jq; rw [if_pos he, if_pos he, if_neg (by rw [hc]; simp), if_neg (by rw [hc]; simp)]; exact ⟨rfl, rfl⟩)
    | skip
theorem KC (x : bF) (hx : x.Ok) : au Tryz.prog 21 [.one (.lst 9 x.n (bq x.f)), .one (.lst 2 x.m (fA x.S)), .one (.lst 1 x.mo (iJ x.O))] (.tup [.one (.lst 1 (kM x).length (bG (zL (kM x)))), .one (.g (.int .i64 (xX x)))]) := by
  by_cases he : cB x = 0
  · exact abV x hx he
  · exact abA x hx he
theorem ahs (x : bF) (hx : x.Ok) (he : cB x ≠ 0) : au Tryz.prog 24 [.one (.lst 9 x.n (bq x.f)), .one (.lst 2 x.m (fA x.S)), .one (.lst 1 x.mo (iJ x.O))] (.tup [.one (.lst 1 (qw x).length (bG (zL (qw x)))), .one (.g (.int .i64 (cB x)))]) := by
  refine ah Tryz.func24 rfl (by rw [Tryz.ntmps24]; simp) ?_
  simp only [Tryz.ntmps24, zM, PT.tv, ak, Nat.zero_add, Nat.reduceAdd]
  repeat' (first
 | ((with_reducible show AW _ _ _ _); first
 | (with_reducible first | refine aS (fun K hK => ?_) | refine aT ?_ | refine aC ?_)
 | (first
 | (with_reducible first | refine aP 0 [0,1,2] ?_ | refine aP 1 [0,1,2] ?_ | refine aP 2 [8,9] ?_ | refine aP 3 [9] ?_)))
 | (((with_reducible refine Need.mk ?_)); focus (exact True.intro))
 | (with_reducible refine aA ?_)
 | ((with_reducible show aY _ _ _ _ _ _); first
 | ((with_reducible refine aH ?_ ?_) <;> (intro hc; (try simp only [zB, zC, reduceCtorEq] at hc); ((try (exfalso; omega))); (try (exfalso; contradiction)))))
 | ((with_reducible show aN _ _ _ _ _ _ _ _ _ _); first
 | (refine aj (k := 37) jr (Ir x hx he) ?_ ?_))
 | ((fail_if_success (with_reducible show AW _ _ _ _)); simp (maxSteps := 2000000) only [go_sem, reduceIte, reduceCtorEq, xA, xL, xD, xE, xM, xS, xB, Tryz.f24])
 | ((with_reducible refine hK _ ?_); clear hK K))
  all_goals ((unfold qw; rw [if_neg he]; rfl))
theorem aja {x : bF} {s : Nat} {b : Bool} (h : vW x s = b) : dS (iU x) s = b := h
theorem afK (x : bF) (hx : x.Ok) (he : cB x = 0) : au Tryz.prog 24 [.one (.lst 9 x.n (bq x.f)), .one (.lst 2 x.m (fA x.S)), .one (.lst 1 x.mo (iJ x.O))] (.tup [.one (.lst 1 (qw x).length (bG (zL (qw x)))), .one (.g (.int .i64 (cB x)))]) := by
  obtain ⟨_, _, _, _, hm, _⟩ := cK he
  have h2p : 0 < 2 ^ x.m := Nat.pow_pos (by decide)
  have mk0 : True := trivial
  have mk1 : True := trivial
  have hf : True := trivial
  have hw : True := trivial
  have hg : True := trivial
  have hbs : True := trivial
  have hsw : True := trivial
  have hig : True := trivial
  refine ah Tryz.func24 rfl (by rw [Tryz.ntmps24]; simp) ?_
  simp only [Tryz.ntmps24, zM, PT.tv, ak, Nat.zero_add, Nat.reduceAdd]
  repeat' (first
 | ((with_reducible show iT _ _ false _ _ _ _); (with_reducible refine iy (fun h => by cases h) (fun _ => ?_)))
 | ((with_reducible show iT _ _ true (Oper.mk _ (Op.call _) _ _ _ _) _ _ _); (with_reducible refine iy (fun _ => ?_) (fun h => by cases h)))
 | ((with_reducible show AW _ _ _ _); first
 | (with_reducible first | refine aS (fun K hK => ?_) | refine aI ?_ | refine aX ?_ | refine aT ?_ | refine aC ?_ | refine aB ?_)
 | (first
 | (with_reducible first | refine aP (ops := #[⟨some 6, _, _, _, _, _⟩, _]) 0 [0,1,2] ?_ | refine aP (ops := #[⟨some 4, _, _, _, _, _⟩, _, _, _]) 0 [0,1,2] ?_ | refine aP (ops := #[⟨some 6, _, _, _, _, _⟩, _, _, _, _, _, _, _, _, _, _, _, _]) 0 [0,1,2,3,4] ?_ | refine aP (ops := #[⟨some 3, _, _, _, _, _⟩]) 0 [0,1] ?_ | refine aP (ops := #[⟨some 13, _, _, _, _, _⟩, _, _, _, _, _, _, _, _, _]) 1 [0,1,2] ?_ | refine aP (ops := #[⟨some 8, _, _, _, _, _⟩]) 1 [0,4,5] ?_ | refine aP (ops := #[⟨some 19, _, _, _, _, _⟩, _, _]) 1 [0,1,3] ?_ | refine aP (ops := #[⟨some 7, _, _, _, _, _⟩, _, _, _, _, _, _, _]) 1 [0,1] ?_ | refine aP (ops := #[⟨some 19, _, _, _, _, _⟩, _]) 2 [8,9] ?_ | refine aP (ops := #[⟨some 9, _, _, _, _, _⟩, _]) 2 [0,4,5,8] ?_ | refine aP (ops := #[⟨some 12, _, _, _, _, _⟩, _]) 2 [5] ?_ | refine aP (ops := #[⟨some 12, _, _, _, _, _⟩, _]) 3 [0,4,5,8,9] ?_ | refine aP (ops := #[⟨some 23, _, _, _, _, _⟩, _, _, _, _, _, _, _]) 4 [8] ?_ | refine aP (ops := #[⟨some 11, _, _, _, _, _⟩]) 4 [0,8,9,10] ?_ | refine aP (ops := #[⟨some 28, _, _, _, _, _⟩, _, _, _, _]) 5 [8,10] ?_ | refine aP (ops := #[⟨some 13, _, _, _, _, _⟩, _, _, _]) 5 [0,8,9,10,11] ?_ | refine aP 6 [0,8,9,10,11] ?_ | refine aP 7 [0,8,9,10,11] ?_)
 | ((with_reducible refine aR (c := Code.region 8 _ true) [8,9] ?_); (with_reducible refine aD ?_ ?_ ?_ ?_); (focus kernel_rfl); (focus kernel_rfl); (focus kernel_rfl)))
 | ((with_reducible show AW _ (Code.loop _) _ _); first
 | ((with_reducible refine aL (c := (Code.seq (Code.seq (Code.region 5 _ _) _) _)) (ι := Nat) [0,8,9,10] (fun s => [(11, .t (.one (.iv (.g (.int .u64 (s : Int))))))]) (fun s => [(3, [.iv (.g (.int .u64 ((iK iY (vW x) s).1 : Nat)))]), (4, [.iv (.g (.bool (iK iY (vW x) s).2))])]) (fun s => s <= 2 ^ x.m) (fun s => 2 ^ x.m - s) 0 ?lg5 ?l15 ?l25 ?li5 ?lr5); (case' lg5 => rintro s _); (case' li5 => try (exact Nat.zero_le _)); (case' lr5 => rintro s hsI KR hR5; simp only [bf, bN, hset, lk, if_true, if_false, xE, reduceIte, zN, su, he, hf, hw, hbs, hsw, hig, Df]))))
 | ((first | (with_reducible refine And.intro ?_ ?_) | (with_reducible refine Need.mk ?_)); focus (exact True.intro))
 | (with_reducible refine aA ?_)
 | ((with_reducible show aY _ _ _ _ _ _); first
 | ((with_reducible refine aH ?_ ?_) <;> (intro hc; (try simp only [zB, zC, reduceCtorEq] at hc); ((try (exfalso; omega)); (try (clear mk0 hf hw hg hbs hsw hig; have hin : iV x.m s := (by show s < 2 ^ x.m; omega); have hbi := ou (w := iY) (g := (vW x)) (m := x.m) (s := s) hsI; have hs1 := dP hm hin; have hsw := afo hs1; rcases EH iY (vW x) s with ⟨hf, hw, hg, hbs⟩ | ⟨hf, hw, hg, hbs⟩ | ⟨hf, hw, hg, hbs⟩ | ⟨hf, hw, hg, hbs⟩ | ⟨hf, hw, hg, hbs⟩; all_goals (first | (have hig := aja hg) | (have hig := hw)))); (try (clear mk1; have e0 : s = 2 ^ x.m := (by omega); subst e0; have hbi := ou (w := iY) (g := (vW x)) (m := x.m) (s := 2 ^ x.m) hsI))); (try (exfalso; contradiction)))))
 | ((with_reducible refine And.intro ?_ ?_); focus ((with_reducible show fB _ _ _ = true); kernel_rfl))
 | ((with_reducible show aN _ _ _ _ _ _ _ _ _ _); first
 | (refine aj (k := 37) jr (GH x hx he) ?_ ?_)
 | (refine aj (k := 58) uL (MW (iU x) (jO hx he)) ?_ ?_)
 | (refine aj (k := 48) qZ (Fw (iU x) (jO hx he) s hin) ?_ ?_)
 | (refine aj (k := 57) V6 (acn (iK iY (vW x) s).1 s (dP hm hbi) (dP hm hin)) ?_ ?_)
 | (refine aj (k := 53) El (ZI (iU x) (jO hx he) (iK iY (vW x) (2 ^ x.m)).1 hbi) ?_ ?_)
 | ((refine bY (k := 46) Tryz.func46 rfl DW (by rw [Tryz.ntmps46]; simp) ?_ ?_ (fun K hK => ?_)); (focus (exact True.intro)); (focus ((simp [iM]; done))); simp only [Tryz.ntmps46, List.map_cons, List.map_nil, List.nil_append, List.cons_append, List.append_nil, LV.tv, ak, Nat.zero_add, Nat.reduceAdd])
 | ((refine gK (k := 80) Tryz.func80 rfl Nc (by rw [Tryz.ntmps80]; simp) ?_ ?_ (fun K hK => ?_)); (focus (exact True.intro)); (focus ((simp [iM]; done))); simp only [Tryz.ntmps80, List.map_cons, List.map_nil, List.nil_append, List.cons_append, List.append_nil, LV.tv, ak, Nat.zero_add, Nat.reduceAdd])
 | ((refine gK (k := 56) Tryz.func56 rfl Yb (by rw [Tryz.ntmps56]; simp) ?_ ?_ (fun K hK => ?_)); (focus (exact True.intro)); (focus ((simp [iM]; done))); simp only [Tryz.ntmps56, List.map_cons, List.map_nil, List.nil_append, List.cons_append, List.append_nil, LV.tv, ak, Nat.zero_add, Nat.reduceAdd]))
 | ((with_reducible refine hR5 _ (s + 1) ?_); (try clear hR5 KR))
 | ((with_reducible refine Told.mk ?_); simp only [go_sem, reduceIte, reduceCtorEq, xA, xL, xD, xE, xM, xS, xB, su, he, hf, hw, hbs, hsw, hig, Df] <;> ((((try simp (disch := omega) only [aJ, Int.natCast_add, Int.cast_ofNat_Int, and_true, true_and, and_self]); (repeat' (omega)); done))))
 | ((fail_if_success (with_reducible show AW _ _ _ _)); simp (maxSteps := 2000000) only [go_sem, reduceIte, reduceCtorEq, xA, xL, xD, xE, xM, xS, xB, Tryz.f24, Tryz.f46, Tryz.f80, Tryz.f56, su, he, hf, hw, hbs, hsw, hig, Df])
 | ((with_reducible refine hK _ ?_); clear hK K)
 | (with_reducible apply_assumption -exfalso only [*]))
  all_goals first
    | (unfold qw rpB; rw [if_pos he]; exact ⟨(kQ _ _).symm, fun i o _ _ => IV.aG _⟩)
    | skip
theorem aar (x : bF) (hx : x.Ok) : au Tryz.prog 24 [.one (.lst 9 x.n (bq x.f)), .one (.lst 2 x.m (fA x.S)), .one (.lst 1 x.mo (iJ x.O))] (.tup [.one (.lst 1 (qw x).length (bG (zL (qw x)))), .one (.g (.int .i64 (cB x)))]) := by
  by_cases he : cB x = 0
  · exact afK x hx he
  · exact ahs x hx he
end Go.Proofs.YtmnejmpjmniiiaaGreatDoor
set_option maxRecDepth 100000
set_option maxHeartbeats 4000000
namespace Go.Proofs.YtmnejmpjmniiiaaGreatDoor
open Go.RowKit Go.Sea
open Nat renaming reduceAdd -> xA, reduceLT -> xL, reduceLeDiff -> xD, reduceEqDiff -> xE, reduceMul -> xM, reduceSub -> xS, reduceBEq -> xB
theorem ZX {a b : Nat} (ha : a < 1024) (hb : b < 1024) : bits .andNot .u64 (a : Int) (b : Int) = ((a ^^^ (a &&& b) : Nat) : Int) := SC (by omega) (by omega)
theorem N8 (x : bF) : (iU x).P = dU x := rfl
theorem agJ {x : bF} (h : cB x ≠ 0) : (oJ x).length = 0 /\ cB x = Kw x := by unfold oJ Kw; rw [if_neg h, if_neg h]; exact ⟨rfl, rfl⟩
theorem agx {x : bF} (he : cB x = 0) (h : dS (iU x) (2 ^ x.m - 1) = true) : (oJ x).length = 0 /\ 4 = Kw x := by unfold oJ Kw; rw [if_pos he, if_pos he, if_pos h, if_pos h]; exact ⟨rfl, rfl⟩
theorem agb {x : bF} (he : cB x = 0) (h : dS (iU x) (2 ^ x.m - 1) = false) : oJ x = MH x x.m /\ 0 = Kw x := by unfold oJ Kw; rw [if_pos he, if_pos he, h]; exact ⟨rfl, rfl⟩
theorem afE (x : bF) (hx : x.Ok) (he : cB x ≠ 0) : au Tryz.prog 26 [.one (.lst 9 x.n (bq x.f)), .one (.lst 2 x.m (fA x.S)), .one (.lst 1 x.mo (iJ x.O))] (.tup [.one (.lst 1 (oJ x).length (bG (zL (oJ x)))), .one (.g (.int .i64 (Kw x)))]) := by
  refine ah Tryz.func26 rfl (by rw [Tryz.ntmps26]; simp) ?_
  simp only [Tryz.ntmps26, zM, PT.tv, ak, Nat.zero_add, Nat.reduceAdd]
  repeat' (first
 | ((with_reducible show AW _ _ _ _); first
 | (with_reducible first | refine aS (fun K hK => ?_) | refine I5 ?_ | refine aT ?_ | refine aC ?_)
 | ((with_reducible first | refine aP 0 [0,1,2] ?_ | refine aP 1 [0,1,2] ?_ | refine aP 2 [1,8,9] ?_ | refine aP 3 [9] ?_)))
 | ((first | (with_reducible refine And.intro ?_ ?_) | (with_reducible refine Need.mk ?_)); focus (exact True.intro))
 | (with_reducible refine aA ?_)
 | ((with_reducible show aY _ _ _ _ _ _); first
 | ((with_reducible refine aH ?_ ?_) <;> (intro hc; (try simp only [zB, zC, reduceCtorEq] at hc); ((try (exfalso; omega))); (try (exfalso; contradiction)))))
 | ((with_reducible show aN _ _ _ _ _ _ _ _ _ _); first
 | (refine aj (k := 37) jr (Ir x hx he) ?_ ?_))
 | ((fail_if_success (with_reducible show AW _ _ _ _)); simp (maxSteps := 2000000) only [go_sem, reduceIte, reduceCtorEq, xA, xL, xD, xE, xM, xS, xB, Tryz.f26])
 | ((with_reducible refine hK _ ?_); clear hK K))
  all_goals (exact agJ he)
theorem aeN (x : bF) (hx : x.Ok) (he : cB x = 0) : au Tryz.prog 26 [.one (.lst 9 x.n (bq x.f)), .one (.lst 2 x.m (fA x.S)), .one (.lst 1 x.mo (iJ x.O))] (.tup [.one (.lst 1 (oJ x).length (bG (zL (oJ x)))), .one (.g (.int .i64 (Kw x)))]) := by
  obtain ⟨hv, _, _, _, hm, _⟩ := cK he
  have h2p : 0 < 2 ^ x.m := Nat.pow_pos (by decide)
  have mk0 : True := trivial
  have mk1 : True := trivial
  have mk2 : True := trivial
  have hsh : True := trivial
  have hw0 : True := trivial
  have hs2 : True := trivial
  have hwk : True := trivial
  have hsr : True := trivial
  have ha1 : True := trivial
  refine ah Tryz.func26 rfl (by rw [Tryz.ntmps26]; simp) ?_
  simp only [Tryz.ntmps26, zM, PT.tv, ak, Nat.zero_add, Nat.reduceAdd]
  repeat' (first
 | (refine CS rfl rfl (by omega) ?_)
 | (refine wF rfl rfl (by omega) ?_)
 | (refine Bo rfl rfl (by omega) ?_)
 | ((with_reducible show AW _ _ _ _); first
 | (with_reducible first | refine aS (fun K hK => ?_) | refine U5 ?_ | refine I5 ?_ | refine aI ?_ | refine aX ?_ | refine aT ?_ | refine aC ?_ | refine aB ?_)
 | (first
 | (with_reducible first | refine aP 0 [0,1,2] ?_ | refine aP 1 [0,1,2] ?_ | refine aP 2 [1,8,9] ?_ | refine aP 4 [1,8] ?_ | refine aP 5 [1,8,11] ?_ | refine aP 6 [] ?_ | refine aP 7 [1,8] ?_ | refine aP 8 [1,8,12] ?_ | refine aP 9 [1,8,12,37,38] ?_ | refine aP 10 [1,8,12,37,38] ?_)
 | ((with_reducible refine aR (c := Code.region 11 _ true) [1,8,12,13,37,38] ?_); (with_reducible refine aD ?_ ?_ ?_ ?_); (focus kernel_rfl); (focus kernel_rfl); (focus kernel_rfl))
 | (with_reducible first | refine aP 12 [1,8,12,13,14,37,38] ?_ | refine aP 13 [1,8,12,13,14,37,38,47,48] ?_ | refine aP 14 [1,8,12,13,14,37,38,47,48] ?_ | refine aP 15 [1,8,12,13,14,15,37,38,47,48] ?_ | refine aP 16 [1,8,12,13,14,15,37,38,47,48] ?_ | refine aP 17 [1,8,12,13,14,37,38,47,48] ?_ | refine aP 18 [1,8,12,13,14,37,38] ?_ | refine aP 19 [1,8,12,13,17,37,38] ?_ | refine aP 20 [1,8,12,13,37,38] ?_ | refine aP 21 [1,8,12,37,38] ?_ | refine aP 22 [12] ?_))
 | ((with_reducible show AW _ (Code.loop _) _ _); first
 | ((with_reducible refine aL (c := (Code.seq (Code.region 9 _ _) _)) (ι := Nat) [1,8,37] (fun i => [(12, .t (.one (.slc 0 0 (MH x i).length 1))), (38, iA .i64 (i : Int))]) (fun i => [(0, dL (MH x i))]) (fun i => i <= x.m) (fun i => x.m - i) 0 ?lg9 ?l19 ?l29 ?li9 ?lr9); (case' lg9 => rintro i _); (case' li9 => try (omega)); (case' lr9 => rintro i hi KR hR9; simp only [bf, bN, hset, lk, if_true, if_false, xE, reduceIte, zN, su, N8, he, EK, jQ, jI, wY, bJ, bI, maxLen, aZ, bH, aW, A9, hsh, hw0, hs2, hwk, hsr, ha1]))
 | ((with_reducible refine aL (c := (Code.seq (Code.region 13 _ _) _)) (ι := Nat) [1,8,12,13,37,38,47] (fun k => [(14, .t (.one (.iv (.g (.int .u64 ((nk (dU x) x.m i k) : Nat)))))), (48, iA .i64 (k : Int))]) (fun k => []) (fun k => k <= x.m) (fun k => x.m - k) 0 ?lg13 ?l113 ?l213 ?li13 ?lr13); (case' lg13 => rintro k _); (case' li13 => try (omega)); (case' lr13 => rintro k hk KR hR13; simp only [bf, bN, hset, lk, if_true, if_false, xE, reduceIte, zN, su, N8, he, EK, jQ, jI, wY, bJ, bI, maxLen, aZ, bH, aW, A9, hsh, hw0, hs2, hwk, hsr, ha1]))))
 | ((first | (with_reducible refine And.intro ?_ ?_) | (with_reducible refine Need.mk ?_)); focus (first | exact True.intro | omega))
 | (with_reducible refine aA ?_)
 | ((with_reducible show aY _ _ _ _ _ _); first
 | ((with_reducible refine aH ?_ ?_) <;> (intro hc; (try simp only [zB, zC, reduceCtorEq] at hc); ((try (exfalso; omega)); (try (clear mk0 hsh hw0; have hil : i < x.m := (by omega); have hsh := wU (k := i) (by omega); have hw0 := ZX (a := 2 ^ x.m - 1) (b := 2 ^ i) (dP hm (all_in x.m)) (xw (by omega)); have hle := EY x i)); (try (clear mk1 hs2 hwk hsr ha1; have hkl : k < x.m := (by omega); have hp2 : dU x k < 1024 := Ap (k := k) (by omega) (qV hv hm hkl); have hs2 := wU (k := k) (by omega); have hwk := ZX (a := (nk (dU x) x.m i k)) (b := 2 ^ k) (dP hm (DZ k)) (xw (by omega)); have hsr := Ri (dU x k) i (by omega); have ha1 := SA (UQ i (x := dU x k) (by omega)))); (try (clear mk2; have ek : k = x.m := (by omega); subst ek))); (try (exfalso; contradiction)))))
 | ((with_reducible refine And.intro ?_ ?_); focus ((with_reducible show fB _ _ _ = true); kernel_rfl))
 | ((with_reducible show aN _ _ _ _ _ _ _ _ _ _); first
 | (refine aj (k := 37) jr (GH x hx he) ?_ ?_)
 | (refine aj (k := 58) uL (MW (iU x) (jO hx he)) ?_ ?_)
 | (refine aj (k := 48) qZ (Fw (iU x) (jO hx he) (2 ^ x.m - 1) (all_in x.m)) ?_ ?_)
 | (refine aj (k := 48) qZ (Fw (iU x) (jO hx he) (nk (dU x) x.m i x.m) (DZ _)) ?_ ?_))
 | ((with_reducible show dA _ _ _ _ _ _ _ _ _ _ _ _ _); first
 | (refine aV (k := 58) uL (MW (iU x) (jO hx he)) ?_ ?_))
 | ((with_reducible refine hR9 _ (i + 1) ?_); (try clear hR9 KR))
 | ((with_reducible refine hR13 _ (k + 1) ?_); (try clear hR13 KR))
 | ((with_reducible refine Told.mk ?_); simp only [go_sem, reduceIte, reduceCtorEq, xA, xL, xD, xE, xM, xS, xB, su, N8, he, EK, jQ, jI, wY, bJ, bI, bG, maxLen, aZ, bH, aW, A9, hsh, hw0, hs2, hwk, hsr, ha1] <;> (first | (((try simp (disch := omega) only [aJ, Int.natCast_add, Int.cast_ofNat_Int, and_true, true_and, and_self]); (repeat' (first | omega | rfl | (with_reducible refine And.intro ?_ ?_) | ((exact bO rfl (bU _))) | ((rw [ZT (by assumption)]; first | exact bO rfl (bU _) | (simp; done))) | ((rw [Nh (by assumption)]; exact bO rfl (bU _))) | ((rw [Nh (by assumption)])))); done)) | (((try simp (disch := omega) only [aJ, Int.natCast_add, Int.cast_ofNat_Int, and_true, true_and, and_self]); (repeat' (first | omega | (with_reducible refine And.intro ?_ ?_) | ((exact bO rfl (bU _))) | ((rw [ZC (Zk (by assumption))])) | ((rw [aap (Zi (by assumption))])))); done))))
 | ((fail_if_success (with_reducible show AW _ _ _ _)); simp (maxSteps := 2000000) only [go_sem, reduceIte, reduceCtorEq, xA, xL, xD, xE, xM, xS, xB, Tryz.f26, su, N8, he, EK, jQ, jI, wY, bJ, bI, bG, maxLen, aZ, bH, aW, A9, hsh, hw0, hs2, hwk, hsr, ha1])
 | ((with_reducible refine hK _ ?_); clear hK K)
 | (with_reducible apply_assumption -exfalso only [*]))
  all_goals first
    | exact agx he (by assumption)
    | (have e0 : i = x.m := (by omega); subst e0; have e := agb he (by assumption); rw [e.1]; exact ⟨fun c hc9 => (by have := bU _ c hc9; cases c <;> trivial), ⟨rfl, fun i o hi ho => p9 _ i o hi ho⟩, e.2⟩)
    | skip
theorem Rw (x : bF) (hx : x.Ok) : au Tryz.prog 26 [.one (.lst 9 x.n (bq x.f)), .one (.lst 2 x.m (fA x.S)), .one (.lst 1 x.mo (iJ x.O))] (.tup [.one (.lst 1 (oJ x).length (bG (zL (oJ x)))), .one (.g (.int .i64 (Kw x)))]) := by
  by_cases he : cB x = 0
  · exact aeN x hx he
  · exact afE x hx he
end Go.Proofs.YtmnejmpjmniiiaaGreatDoor
namespace Go.Proofs.YtmnejmpjmniiiaaGreatDoor
open Go.RowKit Go.Sea
def opZ (kd d s : Int) (f : aF) : bT := ⟨kd, 1, f, 0, 0, 0, d, s⟩
def rZ (d s : Int) : aF := ⟨1, 2, 0, 0, 0, 0, fun _ _ => 0, d, s, 0, fun _ _ => 0⟩
def g1 (x : Int) (_ : Nat) : Int := x
def g2 (x y : Int) (i : Nat) : Int := if i = 0 then x else y
def g3 (x y z : Int) (i : Nat) : Int := if i = 0 then x else if i = 1 then y else z
def exS : Nat -> aK
  | 0 => ⟨1, 0, fun _ => 0⟩
  | 1 => ⟨2, 0, fun _ => 0⟩
  | 2 => ⟨3, 1, g1 1⟩
  | 3 => ⟨4, 0, fun _ => 0⟩
  | _ => ⟨5, 1, g1 4⟩
def exO : Nat -> wB
  | 0 => ⟨1, fun _ => opZ 4 20 0 bL⟩
  | 1 => ⟨1, fun _ => opZ 5 0 5 bL⟩
  | 2 => ⟨1, fun _ => opZ 4 25 0 bL⟩
  | 3 => ⟨1, fun _ => opZ 2 0 0 bL⟩
  | _ => ⟨1, fun _ => opZ 1 0 0 (rZ 10 0)⟩
def exF (_ : Nat) : aF := rZ 30 0
def mG : bF := ⟨1, exF, 5, exS, 5, exO⟩
def ex0 : bF := ⟨0, exF, 5, exS, 5, exO⟩
def Fp : bF := ⟨0, exF, 1, exS, 1, exO⟩
theorem aaI : cB mG = 0 /\ cB ex0 = 0 /\ cB Fp = 0 := ⟨by decide +kernel, by decide +kernel, by decide +kernel⟩
theorem Zn : fH mG 3 (g3 1 2 3) = 0 /\ iN mG 3 (g3 1 2 3) = true := ⟨by decide +kernel, by decide +kernel⟩
theorem ZG : fH mG 1 (g1 3) = 0 /\ iN mG 1 (g1 3) = false := ⟨by decide +kernel, by decide +kernel⟩
theorem ZU : fH mG 2 (g2 4 5) = 0 /\ iN mG 2 (g2 4 5) = true := ⟨by decide +kernel, by decide +kernel⟩
theorem Z6 : fH mG 2 (g2 1 4) = 0 /\ iN mG 2 (g2 1 4) = false := ⟨by decide +kernel, by decide +kernel⟩
theorem Z7 : K7 mG 3 (g3 1 2 3) = 0 /\ GL mG 3 (g3 1 2 3) = 1 := ⟨by decide +kernel, by decide +kernel⟩
theorem ahc : K7 mG 1 (g1 3) = 15 := by decide +kernel
theorem afI : xX mG = 0 /\ kM mG = [1,4] := ⟨by decide +kernel, by decide +kernel⟩
theorem aiv : Kw mG = 0 /\ oJ mG = [4] := ⟨by decide +kernel, by decide +kernel⟩
theorem aiR : xX Fp = 0 /\ kM Fp = [1] := ⟨by decide +kernel, by decide +kernel⟩
theorem aiL : Kw Fp = 0 /\ oJ Fp = [1] := ⟨by decide +kernel, by decide +kernel⟩
end Go.Proofs.YtmnejmpjmniiiaaGreatDoor
namespace Go.Proofs.YtmnejmpjmniiiaaGreatDoor
open Go.RowKit Go.Sea
def eU {σ : Type} : List (σ -> Option σ) -> σ -> Option σ
  | [], s => some s
  | f :: l, s => (f s).bind (eU l)
theorem Az {σ : Type} : ∀ (l m : List (σ -> Option σ)) (s : σ), eU (l ++ m) s = (eU l s).bind (eU m)
  | [], _, _ => rfl
  | f :: l, m, s => by
    show (f s).bind (eU (l ++ m)) = ((f s).bind (eU l)).bind (eU m)
    cases f s with
    | none => rfl
    | some t => exact Az l m t
theorem Bu {σ : Type} (x : Option σ) : x.bind some = x := by cases x <;> rfl
structure jh {σ : Type} (f g : σ -> Option σ) : Prop where
  com : ∀ s, (f s).bind g = (g s).bind f
  dia : ∀ s, (f s).isSome = true -> (g s).isSome = true -> ((f s).bind g).isSome = true
theorem jh.symm {σ : Type} {f g : σ -> Option σ} (h : jh f g) : jh g f :=
  ⟨fun s => (h.com s).symm, fun s a b => by rw [<- h.com]; exact h.dia s b a⟩
theorem jh.run {σ : Type} {f : σ -> Option σ} : ∀ {l : List (σ -> Option σ)}, (∀ g, g ∈ l -> jh f g) -> jh f (eU l)
  | [], _ => ⟨fun s => Bu (f s), fun s a _ => by show ((f s).bind some).isSome = true; rw [Bu]; exact a⟩
  | g :: l, h => by
    have hg := h g (List.mem_cons_self ..)
    have ih := jh.run (fun k hk => h k (List.mem_cons_of_mem _ hk))
    have com : ∀ s, (f s).bind (eU (g :: l)) = (eU (g :: l) s).bind f := fun s => by
      show (f s).bind (fun t => (g t).bind (eU l)) = ((g s).bind (eU l)).bind f
      have e1 : (f s).bind (fun t => (g t).bind (eU l)) = ((f s).bind g).bind (eU l) := by cases f s <;> rfl
      have e2 : ((g s).bind (eU l)).bind f = (g s).bind (fun t => (eU l t).bind f) := by cases g s <;> rfl
      rw [e1, e2, hg.com]
      cases g s with
      | none => rfl
      | some t => exact ih.com t
    refine ⟨com, fun s a b => ?_⟩
    have b' : ((g s).bind (eU l)).isSome = true := b
    cases hgs : g s with
    | none => rw [hgs] at b'; cases b'
    | some t =>
      rw [hgs] at b'
      have d := hg.dia s a (by rw [hgs]; rfl)
      rw [hg.com, hgs] at d
      have := ih.dia t d b'
      rw [com]
      show (((g s).bind (eU l)).bind f).isSome = true
      rw [hgs]
      show ((eU l t).bind f).isSome = true
      rw [<- ih.com]; exact this
theorem Am {σ α : Type} (F : α -> σ -> Option σ) (t : α -> Bool) : ∀ {S : List α}, S.Pairwise (fun a b => t b = true -> t a = false -> jh (F a) (F b)) -> ∀ s, eU (S.map F) s = (eU ((S.filter t).map F) s).bind (eU ((S.filter fun a => !t a).map F))
  | [], _, _ => rfl
  | a :: S, h, s => by
    have hp := List.pairwise_cons.1 h
    by_cases ha : t a = true
    · rw [List.filter_cons_of_pos ha, List.filter_cons_of_neg (by simp [ha])]
      show (F a s).bind (eU (S.map F)) = ((F a s).bind (eU ((S.filter t).map F))).bind _
      cases F a s with
      | none => rfl
      | some u => exact Am F t hp.2 u
    · rw [List.filter_cons_of_neg ha, List.filter_cons_of_pos (by simp [ha])]
      show (F a s).bind (eU (S.map F)) = (eU ((S.filter t).map F) s).bind (fun u => (F a u).bind (eU ((S.filter fun a => !t a).map F)))
      have hf : jh (F a) (eU ((S.filter t).map F)) := jh.run fun g hg => by
        obtain ⟨b, hb, rfl⟩ := List.mem_map.1 hg
        have := List.mem_filter.1 hb
        exact hp.1 b this.1 this.2 (by simpa using ha)
      have e1 : ∀ (x : Option σ), x.bind (fun u => (F a u).bind (eU ((S.filter fun a => !t a).map F))) = (x.bind (F a)).bind (eU ((S.filter fun a => !t a).map F)) := fun x => by cases x <;> rfl
      rw [e1, <- hf.com]
      cases F a s with
      | none => rfl
      | some u => exact Am F t hp.2 u
theorem Uk {σ α : Type} (F : α -> σ -> Option σ) (t : α -> Bool) {S : List α} {j : α} (h : S.Pairwise (fun a b => t b = true -> t a = false -> jh (F a) (F b))) (hj : ∀ a, a ∈ S -> t a = false -> jh (F a) (F j)) {s : σ} (h1 : (eU (S.map F) s).isSome = true) (h2 : (eU ((S.filter t ++ [j]).map F) s).isSome = true) : (eU ((S ++ [j]).map F) s).isSome = true := by
  rw [List.map_append, Az] at h2 ⊢
  rw [Am F t h] at h1 ⊢
  cases hq : eU ((S.filter t).map F) s with
  | none => rw [hq] at h1; cases h1
  | some u =>
    rw [hq] at h1 h2
    have hf : jh (F j) (eU ((S.filter fun a => !t a).map F)) := jh.run fun g hg => by
      obtain ⟨b, hb, rfl⟩ := List.mem_map.1 hg
      have := List.mem_filter.1 hb
      exact (hj b this.1 (by simpa using this.2)).symm
    have h2' : (F j u).isSome = true := by
      have e : ((some u).bind (eU ([j].map F))) = (F j u).bind some := rfl
      rw [e, Bu] at h2; exact h2
    have d := hf.dia u h2' h1
    rw [hf.com] at d
    show ((eU _ u).bind (eU ([j].map F))).isSome = true
    have e : ∀ x : Option σ, x.bind (eU ([j].map F)) = x.bind (F j) := fun x => by
      cases x with
      | none => rfl
      | some v => exact Bu (F j v)
    rw [e]; exact d
def fM (m : Int -> Option aF) (k : Int) (x : Option aF) : Int -> Option aF := fun j => if j = k then x else m j
theorem Yl (m : Int -> Option aF) (k : Int) (x : Option aF) : fM m k x k = x := by unfold fM; rw [if_pos rfl]
theorem XP (m : Int -> Option aF) {k j : Int} (x : Option aF) (h : j ≠ k) : fM m k x j = m j := by unfold fM; rw [if_neg h]
theorem P8 (m : Int -> Option aF) {a b : Int} (x y : Option aF) (h : a ≠ b) : fM (fM m a x) b y = fM (fM m b y) a x := by
  funext j
  unfold fM
  by_cases h1 : j = b
  · rw [if_pos h1, if_neg (fun e => h (by rw [<- e, h1])), if_pos h1]
  · rw [if_neg h1]
    by_cases h2 : j = a
    · rw [if_pos h2, if_pos h2]
    · rw [if_neg h2, if_neg h2, if_neg h1]
theorem Lr (m : Int -> Option aF) (k : Int) (x y : Option aF) : fM (fM m k x) k y = fM m k y := by
  funext j; unfold fM; by_cases h : j = k
  · rw [if_pos h, if_pos h]
  · rw [if_neg h, if_neg h, if_neg h]
def KH (o : bT) (x : Option aF) : Option (Option aF) :=
  if o.kd = 1 then (match x with
    | none => some (some o.f)
    | some _ => none)
  else match x with
    | none => none
    | some f => if o.kd = 2 then some none else if dY f o = 0 then some (some (fD f o)) else none
def sw (o : bT) (m : Int -> Option aF) : Option (Int -> Option aF) := (KH o (m o.id)).map (fM m o.id)
def frO (a b : bT) : Prop := a.id ≠ b.id \/ (3 <= a.kd /\ a.kd <= 5) /\ (3 <= b.kd /\ b.kd <= 5) /\ a.kd ≠ b.kd
theorem Ye (f : aF) (o : bT) : (fD f o).kd = f.kd := by
  unfold fD; repeat' split
  all_goals rfl
theorem Y6 {f g : aF} (h : f.kd = g.kd) (o : bT) : dY f o = dY g o := by unfold dY; rw [h]
theorem Py {a b : bT} (h : a.kd ≠ b.kd) (f : aF) : fD (fD f a) b = fD (fD f b) a := by
  unfold fD
  repeat' split
  all_goals first | rfl | omega
theorem Z4 {o : bT} (h : 3 <= o.kd /\ o.kd <= 5) (x : Option aF) : KH o x = x.bind fun f => if dY f o = 0 then some (some (fD f o)) else none := by
  unfold KH
  rw [if_neg (by omega)]
  cases x with
  | none => rfl
  | some f => show (if o.kd = 2 then _ else _) = _; rw [if_neg (by omega)]; rfl
theorem YP {a b : bT} (h : frO a b) : jh (sw a) (sw b) := by
  by_cases hi : a.id = b.id
  · obtain ⟨ha, hb, hk⟩ := h.resolve_left (fun k => k hi)
    have ea : ∀ m, sw a m = (m a.id).bind fun f => if dY f a = 0 then some (fM m a.id (some (fD f a))) else none := fun m => by
      unfold sw; rw [Z4 ha]
      cases m a.id with
      | none => rfl
      | some f => show Option.map _ (if _ then _ else _) = (if _ then _ else _); split <;> rfl
    have eb : ∀ m, sw b m = (m a.id).bind fun f => if dY f b = 0 then some (fM m a.id (some (fD f b))) else none := fun m => by
      unfold sw; rw [Z4 hb, hi]
      cases m b.id with
      | none => rfl
      | some f => show Option.map _ (if _ then _ else _) = (if _ then _ else _); split <;> rfl
    have key : ∀ (o : bT) (f : aF) (m : Int -> Option aF) (o2 : bT), (∀ m, sw o2 m = (m a.id).bind fun f => if dY f o2 = 0 then some (fM m a.id (some (fD f o2))) else none) -> sw o2 (fM m a.id (some (fD f o))) = if dY f o2 = 0 then some (fM m a.id (some (fD (fD f o) o2))) else none := fun o f m o2 e => by
      rw [e, Yl]
      show (if dY (fD f o) o2 = 0 then _ else _) = _
      rw [Y6 (Ye f o) o2, Lr]
    refine ⟨fun m => ?_, fun m h1 h2 => ?_⟩
    · rw [ea m, eb m]
      cases hm : m a.id with
      | none => rfl
      | some f =>
        show ((if dY f a = 0 then some (fM m a.id (some (fD f a))) else none).bind (sw b)) = ((if dY f b = 0 then some (fM m a.id (some (fD f b))) else none).bind (sw a))
        by_cases h1 : dY f a = 0 <;> by_cases h2 : dY f b = 0
        · rw [if_pos h1, if_pos h2]
          show sw b _ = sw a _
          rw [key a f m b eb, key b f m a ea, if_pos h1, if_pos h2, Py hk]
        · rw [if_pos h1, if_neg h2]
          show sw b _ = none
          rw [key a f m b eb, if_neg h2]
        · rw [if_neg h1, if_pos h2]
          show none = sw a _
          rw [key b f m a ea, if_neg h1]
        · rw [if_neg h1, if_neg h2]; rfl
    · rw [ea m] at h1 ⊢
      rw [eb m] at h2
      cases hm : m a.id with
      | none => rw [hm] at h1; cases h1
      | some f =>
        rw [hm] at h1 h2
        have h1' : (if dY f a = 0 then some (fM m a.id (some (fD f a))) else none).isSome = true := h1
        have h2' : (if dY f b = 0 then some (fM m a.id (some (fD f b))) else none).isSome = true := h2
        have g1 : dY f a = 0 := by
          by_cases g : dY f a = 0
          · exact g
          · rw [if_neg g] at h1'; cases h1'
        have g2 : dY f b = 0 := by
          by_cases g : dY f b = 0
          · exact g
          · rw [if_neg g] at h2'; cases h2'
        show ((if dY f a = 0 then some (fM m a.id (some (fD f a))) else none).bind (sw b)).isSome = true
        rw [if_pos g1]
        show (sw b _).isSome = true
        rw [key a f m b eb, if_pos g2]; rfl
  · have e : ∀ (m : Int -> Option aF) (p q : bT) (x : Option aF), p.id ≠ q.id -> sw q (fM m p.id x) = (KH q (m q.id)).map fun y => fM (fM m p.id x) q.id y := fun m p q x hpq => by
      unfold sw; rw [XP _ _ (Ne.symm hpq)]
    refine ⟨fun m => ?_, fun m h1 h2 => ?_⟩
    · show ((KH a (m a.id)).map (fM m a.id)).bind (sw b) = ((KH b (m b.id)).map (fM m b.id)).bind (sw a)
      cases ha : KH a (m a.id) with
      | none =>
        cases hb : KH b (m b.id) with
        | none => rfl
        | some y => show none = sw a (fM m b.id y); rw [e m b a y (Ne.symm hi), ha]; rfl
      | some x =>
        cases hb : KH b (m b.id) with
        | none => show sw b (fM m a.id x) = none; rw [e m a b x hi, hb]; rfl
        | some y =>
          show sw b (fM m a.id x) = sw a (fM m b.id y)
          rw [e m a b x hi, e m b a y (Ne.symm hi), ha, hb]
          show some (fM (fM m a.id x) b.id y) = some (fM (fM m b.id y) a.id x)
          rw [P8 m x y hi]
    · have h1' : ((KH a (m a.id)).map (fM m a.id)).isSome = true := h1
      have h2' : ((KH b (m b.id)).map (fM m b.id)).isSome = true := h2
      show (((KH a (m a.id)).map (fM m a.id)).bind (sw b)).isSome = true
      cases ha : KH a (m a.id) with
      | none => rw [ha] at h1'; cases h1'
      | some x =>
        cases hb : KH b (m b.id) with
        | none => rw [hb] at h2'; cases h2'
        | some y =>
          show (sw b (fM m a.id x)).isSome = true
          rw [e m a b x hi, hb]; rfl
def qM (k : Nat) (o : Nat -> bT) : (Int -> Option aF) -> Option (Int -> Option aF) := eU ((List.range k).map fun i => sw (o i))
theorem TM {k l : Nat} {o p : Nat -> bT} (h : ∀ i j, i < k -> j < l -> frO (o i) (p j)) : jh (qM k o) (qM l p) := by
  unfold qM
  refine jh.run fun g hg => ?_
  obtain ⟨j, hj, rfl⟩ := List.mem_map.1 hg
  refine (jh.run fun g hg => ?_).symm
  obtain ⟨i, hi, rfl⟩ := List.mem_map.1 hg
  exact (YP (h i j (List.mem_range.1 hi) (List.mem_range.1 hj))).symm
theorem ai3 {L : List aF} (hL : qU L) {o : bT} (ho : oQ o = true) (hn : L.length < 300) : sw o (idx L) = if (gJ L o).1 = 0 then some (idx (gJ L o).2) else none := by
  unfold sw KH gJ
  by_cases h1 : o.kd = 1
  · rw [if_pos h1, if_pos h1]
    have hid := Vl ho h1
    cases hi : idx L o.id with
    | some f => show none = (if (5 : Int) = 0 then _ else _); rw [if_neg (by decide)]
    | none =>
      show some _ = _
      have e : ¬ 300 <= L.length := by omega
      simp only [if_neg e, if_true]
      congr 1
      funext k
      rw [yJ hL, hid]; rfl
  · rw [if_neg h1, if_neg h1]
    cases hi : idx L o.id with
    | none => show none = (if (4 : Int) = 0 then _ else _); rw [if_neg (by decide)]
    | some f =>
      by_cases h2 : o.kd = 2
      · simp only [if_pos h2, if_true]
        show some _ = some _
        congr 1
        funext k
        rw [rM hL]; rfl
      · simp only [if_neg h2]
        by_cases h3 : dY f o = 0
        · simp only [if_pos h3, if_true]
          show some _ = some _
          congr 1
          funext k
          rw [yJ (rT hL _), rM hL, Ew, (fV hi).2]
          unfold fM
          by_cases g : k = o.id
          · rw [if_pos g, if_pos g]
          · rw [if_neg g, if_neg g, if_neg g]
        · simp only [if_neg h3]; rfl
theorem Us {L : List aF} (hL : qU L) (o : bT) : (gJ L o).2.length <= L.length + 1 := by
  have hp : ∀ (K : List aF) (f : aF), qU K -> (iP K f).length <= K.length + 1 := fun K f hK => by
    unfold iP
    rw [List.length_append, List.length_cons]
    have : (K.filter fun g => g.id < f.id).length + (K.filter fun g => f.id < g.id).length <= K.length := by
      clear hK hL
      induction K with
      | nil => simp
      | cons g K ih =>
        simp only [List.filter_cons, List.length_cons]
        by_cases h1 : g.id < f.id
        · have h2 : ¬ f.id < g.id := by omega
          simp only [decide_eq_true h1, decide_eq_false h2, if_true, List.length_cons]; simp; omega
        · by_cases h2 : f.id < g.id
          · simp only [decide_eq_false h1, decide_eq_true h2, if_true, List.length_cons]; simp; omega
          · simp only [decide_eq_false h1, decide_eq_false h2]; simp; omega
    omega
  have hc : ∀ (K : List aF) (k : Int), (iL K k).length <= K.length := fun K k => List.length_filter_le _ _
  unfold gJ
  repeat' split
  all_goals first
    | exact Nat.le_succ _
    | exact hp _ _ hL
    | exact Nat.le_trans (hc _ _) (Nat.le_succ _)
    | exact Nat.le_trans (hp _ _ (rT hL _)) (Nat.succ_le_succ (hc _ _))
theorem AU {L : List aF} (hL : qU L) (o : Nat -> bT) : ∀ i, qU (eu L o i) /\ (eu L o i).length <= L.length + i
  | 0 => ⟨hL, Nat.le_refl _⟩
  | i + 1 => by
    have h := AU hL o i
    have h2 := Us h.1 (o i)
    exact ⟨Oa h.1 (o i), by show (gJ (eu L o i) (o i)).2.length <= _; omega⟩
theorem ZA {L : List aF} (hL : qU L) {o : Nat -> bT} : ∀ (k : Nat), (∀ i, i < k -> oQ (o i) = true) -> L.length + k <= 300 -> ((∀ i, i < k -> (gJ (eu L o i) (o i)).1 = 0) -> qM k o (idx L) = some (idx (eu L o k))) /\ ((∃ i, i < k /\ (gJ (eu L o i) (o i)).1 ≠ 0) -> qM k o (idx L) = none)
  | 0, _, _ => ⟨fun _ => rfl, fun ⟨i, hi, _⟩ => absurd hi (Nat.not_lt_zero i)⟩
  | k + 1, ho, hn => by
    have ih := ZA hL k (fun i hi => ho i (by omega)) (by omega)
    have hg := AU hL o k
    have e : qM (k + 1) o (idx L) = (qM k o (idx L)).bind (sw (o k)) := by
      unfold qM
      rw [List.range_succ, List.map_append, Az]
      congr 1
      funext m
      exact Bu _
    have hd := ai3 hg.1 (ho k (Nat.lt_succ_self k)) (by omega)
    refine ⟨fun h => ?_, fun ⟨i, hi, h⟩ => ?_⟩
    · rw [e, ih.1 (fun i hi => h i (by omega))]
      show sw (o k) (idx (eu L o k)) = _
      rw [hd, if_pos (h k (Nat.lt_succ_self k))]; rfl
    · rw [e]
      by_cases hk : ∀ i, i < k -> (gJ (eu L o i) (o i)).1 = 0
      · rw [ih.1 hk]
        have hik : i = k := by
          rcases Nat.lt_or_ge i k with g | g
          · exact absurd (hk i g) h
          · omega
        subst hik
        show sw (o i) (idx (eu L o i)) = none
        rw [hd, if_neg h]
      · have : ∃ i, i < k /\ (gJ (eu L o i) (o i)).1 ≠ 0 := by
          refine Classical.byContradiction fun g => hk fun i hi => ?_
          exact Classical.byContradiction fun g2 => g ⟨i, hi, g2⟩
        rw [ih.2 this]; rfl
theorem rR {b : Nat -> Bool} : ∀ n j, j < fQ b n -> b j = false
  | 0, j, h => by simp [fQ] at h
  | n + 1, j, h => by
    have ih := rR (b := b) n
    simp only [fQ] at h
    split at h
    · exact ih j h
    · rename_i g
      have hle := vN b n
      have e : fQ b n = n := by omega
      split at h
      · exact ih j (by omega)
      · rename_i g2
        rcases (by omega : j < n \/ j = n) with q | rfl
        · exact ih j (by omega)
        · simpa using g2
theorem vL {S : Nat -> aK} {m : Nat} (hv : vsB S m = true) {i : Nat} : ∀ {j : Nat}, i < j -> j < m -> (S i).nu < (S j).nu
  | 0, h, _ => by omega
  | j + 1, h, hj => by
    have h1 := ((of_decide_eq_true hv).2 (j + 1) hj).2.1
    rw [CP] at h1
    rcases (by omega : i < j \/ i = j) with q | rfl
    · have := vL hv q (by omega : j < m); omega
    · exact h1
theorem zI {S : Nat -> aK} {m : Nat} (hv : vsB S m = true) {t : Nat} (ht : t < m) : eT S m (S t).nu = t :=
  Ox ht rfl fun j hj e => by have := vL hv hj ht; omega
theorem pE {S : Nat -> aK} {m : Nat} {y : Int} (h : eT S m y < m) : (S (eT S m y)).nu = y := by
  have key : ∀ k, fQ (fun i => decide ((S i).nu = y)) k < k -> (S (fQ (fun i => decide ((S i).nu = y)) k)).nu = y := by
    intro k
    induction k with
    | zero => intro h; omega
    | succ k ih =>
      intro hk
      simp only [fQ] at hk ⊢
      split
      · rename_i g; exact ih g
      · rename_i g
        rw [if_neg g] at hk
        split
        · rename_i g2; exact of_decide_eq_true g2
        · rename_i g2; rw [if_neg g2] at hk; omega
  exact key m h
theorem FE {S : Nat -> aK} {m i u : Nat} (hv : vsB S m = true) (hi : i < m) (hu : u < (S i).q) : eT S m ((S i).a u) < i := by
  obtain ⟨t, h1, h2⟩ := CF hv hi hu
  rw [<- h2, zI hv (by omega)]; exact h1
theorem Ot {S : Nat -> aK} {m i : Nat} {P : List Nat} {t : Nat} : ∀ j, (Ay S m i P j).testBit t = true ↔ ∃ u, u < j /\ (t = eT S m ((S i).a u) \/ (P.getD (eT S m ((S i).a u)) 0).testBit t = true)
  | 0 => by simp [Ay]
  | j + 1 => by
    show (Ay S m i P j ||| (_ ||| 2 ^ _)).testBit t = true ↔ _
    rw [Nat.testBit_or, Bool.or_eq_true, Ot j, Nat.testBit_or, Bool.or_eq_true, Nat.testBit_two_pow, decide_eq_true_eq]
    constructor
    · rintro (⟨u, h1, h2⟩ | h | h)
      · exact ⟨u, by omega, h2⟩
      · exact ⟨j, by omega, Or.inr h⟩
      · exact ⟨j, by omega, Or.inl h.symm⟩
    · rintro ⟨u, h1, h2⟩
      rcases (by omega : u < j \/ u = j) with q | rfl
      · exact Or.inl ⟨u, q, h2⟩
      · rcases h2 with h2 | h2
        · exact Or.inr (Or.inr h2.symm)
        · exact Or.inr (Or.inl h2)
theorem mq {S : Nat -> aK} {m i t : Nat} (hv : vsB S m = true) (hi : i < m) : (eY S m i).testBit t = true ↔ ∃ u, u < (S i).q /\ (t = eT S m ((S i).a u) \/ (eY S m (eT S m ((S i).a u))).testBit t = true) := by
  have e : eY S m i = Ay S m i (gH S m i) (S i).q := by
    rw [<- Ey S m (Nat.lt_succ_self i) (by omega : i + 1 <= m)]
    show (gH S m i ++ [_]).getD i 0 = _
    rw [Jt (by rw [fG]; omega), fG, Nat.sub_self]; rfl
  rw [e, Ot]
  constructor <;> rintro ⟨u, h1, h2⟩ <;> refine ⟨u, h1, ?_⟩ <;> have h3 := FE hv hi h1
  · rwa [Ey S m h3 (by omega)] at h2
  · rwa [Ey S m h3 (by omega)]
theorem nK {S : Nat -> aK} {m i k : Nat} (hv : vsB S m = true) (hm : m <= 10) (hi : i < m) (h : (eY S m i).testBit k = true) : k < i := by
  cases Nat.lt_or_ge k i with
  | inl g => exact g
  | inr g => rw [Nat.testBit_lt_two_pow (Nat.lt_of_lt_of_le (qV hv hm hi) (Nat.pow_le_pow_right (by decide) g))] at h; cases h
theorem Bc {S : Nat -> aK} {m : Nat} (hv : vsB S m = true) (hm : m <= 10) {k t : Nat} : ∀ n i, i < n -> i < m -> (eY S m i).testBit k = true -> (eY S m k).testBit t = true -> (eY S m i).testBit t = true
  | 0, i, h, _, _, _ => by omega
  | n + 1, i, h, hi, h1, h2 => by
    obtain ⟨u, hu, g⟩ := (mq hv hi).1 h1
    refine (mq hv hi).2 ⟨u, hu, Or.inr ?_⟩
    have h3 := FE hv hi hu
    rcases g with rfl | g
    · exact h2
    · exact Bc hv hm n _ (by omega) (by omega) g h2
theorem abL {k : Nat} {o : Nat -> bT} {l : Nat} {p : Nat -> bT} (h : mR k o l p < 0) {i j : Nat} (hi : i < k) (hj : j < l) : nR (o i) (p j) = false := by
  have h1 : ¬ BZ k o l p < k := fun g => by unfold mR at h; rw [if_pos g] at h; omega
  have h2 : BZ k o l p = k := by have := vN (fun i => decide (Aa (o i) l p < l)) k; unfold BZ at h1 ⊢; omega
  have h3 := rR (b := fun i => decide (Aa (o i) l p < l)) k i (by show i < BZ k o l p; omega)
  have h4 : ¬ Aa (o i) l p < l := of_decide_eq_false h3
  have h5 := vN (fun j => nR (o i) (p j)) l
  exact rR (b := fun j => nR (o i) (p j)) l j (by show j < Aa (o i) l p; unfold Aa at h4 ⊢; omega)
theorem ahd {x y : bT} (h : nR x y = false) : frO x y := by
  have h := of_decide_eq_false h
  unfold frO
  by_cases e : x.id = y.id
  · refine Or.inr ?_
    have h2 : ¬ (x.kd = y.kd \/ nE x = false \/ nE y = false) := fun g => h ⟨e, g⟩
    have hx : nE x = true := by cases g : nE x with
      | true => rfl
      | false => exact absurd (Or.inr (Or.inl g)) h2
    have hy : nE y = true := by cases g : nE y with
      | true => rfl
      | false => exact absurd (Or.inr (Or.inr g)) h2
    exact ⟨of_decide_eq_true hx, of_decide_eq_true hy, fun g => h2 (Or.inl g)⟩
  · exact Or.inl e
def stM (x : bF) (i : Nat) : (Int -> Option aF) -> Option (Int -> Option aF) := qM (x.O i).k (x.O i).o
theorem Yv {x : bF} {i k : Nat} (h : dQ x i k = false) : jh (stM x i) (stM x k) :=
  TM fun a b ha hb => ahd (abL (by have := of_decide_eq_false h; omega) ha hb)
theorem yE {x : bF} (j t : Nat) : (fP (mg x) j).testBit t = true ↔ (j, t) ∈ mg x \/ (t, j) ∈ mg x := Rz _ (fun p hp => (vw.1 hp).1) j t
theorem M7 {x : bF} {i k : Nat} (hik : i < k) (hk : k < x.m) (hp : (dU x k).testBit i = false) (hf : (fP (mg x) i).testBit k = false) : jh (stM x i) (stM x k) := by
  refine Yv ?_
  cases e : dQ x i k with
  | false => rfl
  | true =>
    have := (yE (x := x) i k).2 (Or.inl (vw.2 ⟨hik, hk, hp, e⟩))
    rw [hf] at this; cases this
def Ij (x : bF) (s : Nat) : Prop := ∀ i, s.testBit i = true -> ∀ k, (dU x i).testBit k = true -> s.testBit k = true
def NY (x : bF) (s : Nat) : Prop := ∀ i k, s.testBit i = true -> s.testBit k = true -> (fP (mg x) i).testBit k = false
def M0 (x : bF) : Int -> Option aF := idx (LF x.f x.n)
def jB (x : bF) (s : Nat) : Prop := Ij x s /\ NY x s /\ (eU ((bl s).map (stM x)) (M0 x)).isSome = true
theorem Tg {s n : Nat} (h : ∀ i, s.testBit i = true -> i < n) (hs : s < 1024) : bl s = (List.range n).filter s.testBit := by
  have key : ∀ a b, a <= b -> (∀ i, s.testBit i = true -> i < a) -> (List.range b).filter s.testBit = (List.range a).filter s.testBit := by
    intro a b
    induction b with
    | zero => intro h _; have : a = 0 := by omega
              subst this; rfl
    | succ b ih =>
      intro h hb
      rcases (by omega : a = b + 1 \/ a <= b) with rfl | q
      · rfl
      · rw [List.range_succ, List.filter_append, ih q hb, List.filter_cons_of_neg (by intro e; have := hb b e; omega)]; simp
  have h10 : ∀ i, s.testBit i = true -> i < 10 := fun i hi => mH (m := 10) hs hi
  unfold bl
  rcases Nat.le_total n 10 with q | q
  · exact key n 10 q h
  · exact (key 10 n q h10).symm
theorem Oq (P : Nat -> Nat) (t : Nat) : ∀ (l : List Nat) (a : Nat), (Mj P a l).testBit t = true ↔ a.testBit t = true \/ ∃ i, i ∈ l /\ (P i).testBit t = true
  | [], a => by simp [Mj]
  | i :: l, a => by
    show (Mj P (a ||| P i) l).testBit t = true ↔ _
    rw [Oq P t l, Nat.testBit_or, Bool.or_eq_true]
    constructor
    · rintro ((h | h) | ⟨j, h1, h2⟩)
      · exact Or.inl h
      · exact Or.inr ⟨i, List.mem_cons_self .., h⟩
      · exact Or.inr ⟨j, List.mem_cons_of_mem _ h1, h2⟩
    · rintro (h | ⟨j, h1, h2⟩)
      · exact Or.inl (Or.inl h)
      · rcases List.mem_cons.1 h1 with rfl | h1
        · exact Or.inl (Or.inr h2)
        · exact Or.inr ⟨j, h1, h2⟩
theorem Af {s i : Nat} (hs : s < 1024) : i ∈ bl s ↔ s.testBit i = true := by
  rw [Aj]; exact ⟨fun h => h.2, fun h => ⟨mH (m := 10) hs h, h⟩⟩
theorem ow {P : Nat -> Nat} {s : Nat} (hs : s < 1024) (t : Nat) : (iR P s).testBit t = true ↔ s.testBit t = true \/ ∃ i, s.testBit i = true /\ (P i).testBit t = true := by
  rw [Ui, Oq]
  constructor
  · rintro (h | ⟨i, h1, h2⟩)
    · exact Or.inl h
    · exact Or.inr ⟨i, (Af hs).1 h1, h2⟩
  · rintro (h | ⟨i, h1, h2⟩)
    · exact Or.inl h
    · exact Or.inr ⟨i, (Af hs).2 h1, h2⟩
theorem Ru {x : bF} (he : cB x = 0) {s : Nat} (hs : iV x.m s) : iR (dU x) s = s ↔ Ij x s := by
  have h10 := dP (cK he).2.2.2.2.1 hs
  constructor
  · intro h i hi k hk
    rw [<- h]; exact (ow h10 k).2 (Or.inr ⟨i, hi, hk⟩)
  · intro h
    apply Nat.eq_of_testBit_eq
    intro t
    rw [Bool.eq_iff_iff, ow h10]
    exact ⟨fun g => g.elim id fun ⟨i, h1, h2⟩ => h i h1 t h2, Or.inl⟩
theorem S9 {x : bF} {s : Nat} (hs : s < 1024) : Ih (fP (mg x)) s = true ↔ NY x s := by
  unfold Ih NY
  rw [decide_eq_true_eq]
  constructor
  · intro h i k hi hk
    have e := h i ((Af hs).2 hi)
    cases g : (fP (mg x) i).testBit k with
    | false => rfl
    | true =>
      have : (fP (mg x) i &&& s).testBit k = true := by rw [Nat.testBit_and, g, hk]; rfl
      rw [e] at this; simp at this
  · intro h i hi
    apply Nat.eq_of_testBit_eq
    intro k
    rw [Nat.testBit_and, Nat.zero_testBit]
    cases hk : s.testBit k with
    | false => simp
    | true => rw [h i k ((Af hs).1 hi) hk]; rfl
def xZ (O : Nat -> wB) (l : List Nat) : Nat := (l.map fun i => (O i).k).sum
theorem OM {O : Nat -> wB} {l m : List Nat} (h : l.Perm m) : xZ O l = xZ O m := by
  induction h with
  | nil => rfl
  | cons a _ ih => show (O a).k + xZ O _ = (O a).k + xZ O _; rw [ih]
  | swap a b l => show (O b).k + ((O a).k + xZ O l) = (O a).k + ((O b).k + xZ O l); omega
  | trans _ _ h1 h2 => rw [h1, h2]
theorem Ej {O : Nat -> wB} : ∀ (m : Nat) (l : List Nat), l.Nodup -> (∀ i, i ∈ l -> i < m) -> xZ O l <= O7 O m
  | 0, l, _, h => by
    cases l with
    | nil => exact Nat.le_refl _
    | cons a l => exact absurd (h a (List.mem_cons_self ..)) (Nat.not_lt_zero a)
  | m + 1, l, hn, h => by
    by_cases hm : m ∈ l
    · have hp := List.perm_cons_erase hm
      have e : xZ O l = (O m).k + xZ O (l.erase m) := OM hp
      have := Ej (O := O) m (l.erase m) (hn.erase m) fun i hi => by
        have h1 := h i (List.mem_of_mem_erase hi)
        have h2 := ((List.Nodup.mem_erase_iff hn).1 hi).1
        omega
      rw [e]; show _ <= O7 O m + (O m).k; omega
    · have := Ej (O := O) m l hn fun i hi => by
        have h1 := h i hi
        have h2 : i ≠ m := fun e => hm (e ▸ hi)
        omega
      exact Nat.le_trans this (Nat.le_add_right _ _)
theorem Sv {R : List aF} (h : Good R) : gM R.length (fun i => R.getD i bL) = true := by
  refine decide_eq_true ⟨h.n, fun i hi => ⟨?_, fun h0 => ?_⟩⟩
  · simp only [List.getD_eq_getElem?_getD, List.getElem?_eq_getElem hi, Option.getD_some]
    exact h.f _ (List.getElem_mem hi)
  · simp only [List.getD_eq_getElem?_getD, List.getElem?_eq_getElem hi, List.getElem?_eq_getElem (show i - 1 < R.length by omega), Option.getD_some]
    exact List.pairwise_iff_getElem.1 h.a _ _ _ _ (by omega)
theorem XT (R : List aF) : LF (fun i => R.getD i bL) R.length = R := by
  apply List.ext_getElem
  · simp [LF]
  · intro i h1 h2
    simp only [LF, List.getElem_map, List.getElem_range, List.getD_eq_getElem?_getD, List.getElem?_eq_getElem h2, Option.getD_some]
theorem aes {X : Fv} {p : wB} (hX : gM X.n X.f = true) (hp : fO p.k p.o = true) (hn : X.n + p.k <= 300) :
    (JM X p = 0 -> qM p.k p.o (idx (LF X.f X.n)) = some (idx (LF (zQ X p).f (zQ X p).n)) /\ gM (zQ X p).n (zQ X p).f = true /\ (zQ X p).n <= X.n + p.k) /\ (JM X p ≠ 0 -> qM p.k p.o (idx (LF X.f X.n)) = none) := by
  have hG := yw hX
  have ho := (of_decide_eq_true hp).2
  have hl : (LF X.f X.n).length = X.n := by rw [fC]
  have hM := ZA hG.a (o := p.o) p.k ho (by rw [hl]; exact hn)
  constructor
  · intro h
    obtain ⟨hv, hd⟩ := Uw h
    have hg := jD hG (k := p.k) ho p.k (Nat.le_refl _)
    have e1 := (Jl hX hp (i := p.k) (Int.le_refl _) hd).1
    have e2 : LF (zQ X p).f (zQ X p).n = eu (LF X.f X.n) p.o p.k := by
      show LF (fun i => (eu (LF X.f X.n) p.o p.k).getD i bL) (Dc X.n X.f p.k p.o) = _
      rw [<- e1]; exact XT _
    refine ⟨by rw [hM.1 hd, e2], ?_, ?_⟩
    · show gM (Dc X.n X.f p.k p.o) (fun i => (eu (LF X.f X.n) p.o p.k).getD i bL) = true
      rw [<- e1]; exact Sv hg
    · show Dc X.n X.f p.k p.o <= _
      rw [<- e1]
      have := (AU hG.a p.o p.k).2
      rw [hl] at this; exact this
  · intro h
    refine hM.2 ?_
    refine Classical.byContradiction fun g => h ?_
    have hd : ∀ j, j < p.k -> (gJ (eu (LF X.f X.n) p.o j) (p.o j)).1 = 0 := fun j hj => Classical.byContradiction fun g2 => g ⟨j, hj, g2⟩
    exact (Jl hX hp (i := p.k) (Int.le_refl _) hd).2.2.symm
theorem ZP {O : Nat -> wB} : ∀ (l : List Nat) (X : Fv), gM X.n X.f = true -> (∀ i, i ∈ l -> fO (O i).k (O i).o = true) -> X.n + xZ O l <= 300 ->
    (gu O X l = true -> eU (l.map fun i => qM (O i).k (O i).o) (idx (LF X.f X.n)) = some (idx (LF (gD O X l).f (gD O X l).n)) /\ gM (gD O X l).n (gD O X l).f = true) /\ (gu O X l = false -> eU (l.map fun i => qM (O i).k (O i).o) (idx (LF X.f X.n)) = none)
  | [], X, hX, _, _ => ⟨fun _ => ⟨rfl, hX⟩, fun h => by cases h⟩
  | i :: l, X, hX, hO, hn => by
    have hs : xZ O (i :: l) = (O i).k + xZ O l := rfl
    have h1 := aes (X := X) (p := O i) hX (hO i (List.mem_cons_self ..)) (by omega)
    have eB : gu O X (i :: l) = (decide (JM X (O i) = 0) && gu O (zQ X (O i)) l) := rfl
    have eP : eU ((i :: l).map fun i => qM (O i).k (O i).o) (idx (LF X.f X.n)) = (qM (O i).k (O i).o (idx (LF X.f X.n))).bind (eU (l.map fun i => qM (O i).k (O i).o)) := rfl
    rw [eB, eP]
    by_cases h0 : JM X (O i) = 0
    · obtain ⟨g1, g2, g3⟩ := h1.1 h0
      have ih := ZP l (zQ X (O i)) g2 (fun j hj => hO j (List.mem_cons_of_mem _ hj)) (by omega)
      rw [g1, decide_eq_true h0, Bool.true_and]
      exact ih
    · rw [h1.2 h0, decide_eq_false h0, Bool.false_and]
      exact ⟨fun h => (by cases h), fun _ => rfl⟩
theorem mD {x : bF} (he : cB x = 0) {s : Nat} (hs : iV x.m s) : dS (iU x) s = true ↔ jB x s := by
  obtain ⟨hv, hf, hmo, hop, hm, hsum⟩ := cK he
  have h10 := dP hm hs
  have hr := ZP (O := x.O) (bl s) (j3 x) hf (fun i hi => hop i (by have := rP hs hi; omega)) (by
    have := Ej (O := x.O) x.m (bl s) (abv s) fun i hi => rP hs hi
    rw [<- hmo] at this
    show x.n + _ <= 300; omega)
  unfold dS jB
  show (decide (iR (dU x) s = s) && Ih (fP (mg x)) s && gu x.O (j3 x) (bl s)) = true ↔ _
  rw [Bool.and_eq_true, Bool.and_eq_true, decide_eq_true_eq, Ru he hs, S9 h10, and_assoc]
  refine and_congr_right fun _ => and_congr_right fun _ => ?_
  show _ ↔ (eU ((bl s).map fun i => qM (x.O i).k (x.O i).o) (idx (LF x.f x.n))).isSome = true
  cases hb : gu x.O (j3 x) (bl s) with
  | true => exact ⟨fun _ => by rw [show idx (LF x.f x.n) = idx (LF (j3 x).f (j3 x).n) from rfl, (hr.1 hb).1]; rfl, fun _ => rfl⟩
  | false => exact ⟨fun h => (by cases h), fun h => by rw [show idx (LF x.f x.n) = idx (LF (j3 x).f (j3 x).n) from rfl, hr.2 hb] at h; cases h⟩
end Go.Proofs.YtmnejmpjmniiiaaGreatDoor
set_option maxRecDepth 100000
set_option maxHeartbeats 4000000
namespace Go.Proofs.YtmnejmpjmniiiaaGreatDoor
open Go.RowKit Go.Sea
open Nat renaming reduceAdd -> xA, reduceLT -> xL, reduceLeDiff -> xD, reduceEqDiff -> xE, reduceMul -> xM, reduceSub -> xS, reduceBEq -> xB
def ze (n m : Nat) (s t : Nat -> Int) : Bool := decide (n = m /\ ∀ i, i < n -> s i = t i)
def JC (n m : Nat) (f g : Nat -> aF) : Bool := decide (n = m /\ ∀ i, i < n -> tF (f i) (g i) = true)
theorem vP (n : Nat) (f : Nat -> aF) (hn : n <= 9223372036854775807) (hf : ∀ i, i < n -> (f i).Ok) : au Tryz.prog 68 [.one (.lst 9 n (bq f))] (.t (.one (.g (.bool (gM n f))))) := by
  refine ah Tryz.func68 rfl (by rw [Tryz.ntmps68]; simp) ?_
  simp only [Tryz.ntmps68, zM, PT.tv, ak, Nat.zero_add, Nat.reduceAdd]
  repeat' (first
 | ((with_reducible show AW _ _ _ _); first
 | (with_reducible first | refine aS (fun K hK => ?_) | refine aI ?_ | refine aX ?_ | refine aT ?_ | refine aC ?_ | refine aB ?_)
 | (first
 | (with_reducible first | refine aP 0 [0] ?_ | refine aP 1 [0] ?_ | refine aP 2 [] ?_ | refine aP 3 [0] ?_ | refine aP 4 [0,3] ?_ | refine aP 5 [0,3] ?_)
 | ((with_reducible refine aR (c := Code.region 6 _ true) [0,3] ?_); (with_reducible refine aD ?_ ?_ ?_ ?_); (focus kernel_rfl); (focus kernel_rfl); (focus kernel_rfl))
 | (with_reducible first | refine aP 7 [] ?_ | refine aP 8 [] ?_))
 | ((with_reducible show AW _ (Code.loop _) _ _); first
 | ((with_reducible refine aL (c := (Code.seq (Code.seq (Code.region 4 _ _) _) _)) (ι := Nat) [0] (fun i => [(3, iA .i64 (i : Int))]) (fun i => []) (fun i => i <= n /\ (∀ i', i' < i -> FM f i')) (fun i => n - i) 0 ?lg4 ?l14 ?l24 ?li4 ?lr4); (case' lg4 => rintro i _); (case' li4 => try (exact ⟨Nat.zero_le _, fun i hi => absurd hi (Nat.not_lt_zero _)⟩)); (case' lr4 => rintro i ⟨hi, hai⟩ KR hR4; simp only [bf, bN, hset, lk, if_true, if_false, xE, reduceIte, zN]))))
 | ((first | (with_reducible refine And.intro ?_ ?_) | (with_reducible refine Need.mk ?_)); focus (first | exact True.intro | omega | (intros; (repeat' (first | omega | (with_reducible refine And.intro ?_ ?_))); done) | (simp; done) | (simp +contextual; done) | (intro hq; have hq2 := hq; simp only [Bool.and_eq_true, Bool.or_eq_true, Bool.not_eq_true', Bool.not_not, Bool.not_eq_false', decide_eq_true_eq, decide_eq_false_iff_not] at hq2; (repeat' (first | exact hq | (with_reducible refine And.intro ?_ ?_) | omega)); done)))
 | (with_reducible refine aA ?_)
 | ((with_reducible show aY _ _ _ _ _ _); first
 | ((with_reducible refine aH ?_ ?_) <;> (intro hc; (try simp only [zB, zC, reduceCtorEq] at hc); (try (exfalso; contradiction)))))
 | ((with_reducible refine And.intro ?_ ?_); focus ((with_reducible show fB _ _ _ = true); kernel_rfl))
 | ((with_reducible show dA _ _ _ _ _ _ _ _ _ _ _ _ _); first
 | (refine aV (k := 104) zq (M5 (f i) (hf i (by omega))) ?_ ?_))
 | ((with_reducible refine hR4 _ (i + 1) ?_); (try clear hR4 KR))
 | ((with_reducible refine Told.mk ?_); simp only [go_sem, reduceIte, reduceCtorEq, xA, xL, xD, xE, xM, xS, xB] <;> ((((try simp (disch := omega) only [aJ, Int.natCast_add, Int.cast_ofNat_Int, and_true, true_and, and_self]); (repeat' (first | omega | (with_reducible refine And.intro ?_ ?_) | ((exact all_succ (by assumption) ⟨hc.1, fun h0 => by have := hc.2; omega⟩)))); done))))
 | ((fail_if_success (with_reducible show AW _ _ _ _)); simp (maxSteps := 2000000) only [go_sem, reduceIte, reduceCtorEq, xA, xL, xD, xE, xM, xS, xB, Tryz.f68])
 | ((fail_if_success (with_reducible show AW _ _ _ _)); simp (disch := omega) only [aJ, dG, dH])
 | ((with_reducible refine hK _ ?_); clear hK K)
 | (with_reducible apply_assumption -exfalso only [*]))
  all_goals first | exact aew (by assumption) | exact aa6 (by assumption) hc | exact adb (by assumption) (by assumption) hai | skip
end Go.Proofs.YtmnejmpjmniiiaaGreatDoor
set_option maxRecDepth 100000
set_option maxHeartbeats 4000000
namespace Go.Proofs.YtmnejmpjmniiiaaGreatDoor
open Go.RowKit Go.Sea
open Nat renaming reduceAdd -> xA, reduceLT -> xL, reduceLeDiff -> xD, reduceEqDiff -> xE, reduceMul -> xM, reduceSub -> xS, reduceBEq -> xB
theorem ad8 {n m : Nat} {s t : Nat -> Int} (h : (n : Int) ≠ m) : false = ze n m s t := (decide_eq_false fun g => by omega).symm
theorem adg {n m : Nat} {s t : Nat -> Int} {i : Nat} (hi : (i : Int) < n) (h : s i ≠ t i) : false = ze n m s t := (decide_eq_false fun g => h (g.2 i (by omega))).symm
theorem aa3 {n m : Nat} {s t : Nat -> Int} {i : Nat} (h : (n : Int) = m) (hi : (n : Int) <= i) (g : ∀ j, j < i -> s j = t j) : true = ze n m s t := (decide_eq_true ⟨by omega, fun k hk => g k (by omega)⟩).symm
theorem abe {n m : Nat} {f g : Nat -> aF} (h : (n : Int) ≠ m) : false = JC n m f g := (decide_eq_false fun e => by omega).symm
theorem adR {n m : Nat} {f g : Nat -> aF} {i : Nat} (hi : (i : Int) < n) (h : tF (f i) (g i) = false) : false = JC n m f g := (decide_eq_false fun e => by rw [e.2 i (by omega)] at h; cases h).symm
theorem abP {n m : Nat} {f g : Nat -> aF} {i : Nat} (h : (n : Int) = m) (hi : (n : Int) <= i) (ha : ∀ j, j < i -> tF (f j) (g j) = true) : true = JC n m f g := (decide_eq_true ⟨by omega, fun k hk => ha k (by omega)⟩).symm
def iX (q : Nat) (a : Nat -> Int) (x : Int) : Bool := decide (∃ i, i < q /\ a i = x)
theorem adD {q : Nat} {a : Nat -> Int} {x : Int} {i : Nat} (hi : (q : Int) <= i) (g : ∀ j, j < i -> a j ≠ x) : false = iX q a x := (decide_eq_false fun ⟨j, h1, h2⟩ => g j (by omega) h2).symm
theorem ac8 {q : Nat} {a : Nat -> Int} {x : Int} {i : Nat} (hi : (i : Int) < q) (h : a i = x) : true = iX q a x := (decide_eq_true ⟨i, by omega, h⟩).symm
theorem vD (n m : Nat) (s t : Nat -> Int) (hn : n <= 9223372036854775807) (hm : m <= 9223372036854775807) : au Tryz.prog 23 [.one (.lst 1 n (bG s)), .one (.lst 1 m (bG t))] (.t (.one (.g (.bool (ze n m s t))))) := by
  refine ah Tryz.func23 rfl (by rw [Tryz.ntmps23]; simp) ?_
  simp only [Tryz.ntmps23, zM, PT.tv, ak, Nat.zero_add, Nat.reduceAdd]
  repeat' (first
 | ((with_reducible show AW _ _ _ _); first
 | (with_reducible first | refine aS (fun K hK => ?_) | refine aI ?_ | refine aX ?_ | refine aT ?_ | refine aC ?_ | refine aB ?_)
 | (first
 | (with_reducible first | refine aP 0 [0,1] ?_ | refine aP 1 [0,1] ?_ | refine aP 2 [] ?_ | refine aP 3 [0,1] ?_ | refine aP 4 [0,1,5] ?_ | refine aP 5 [0,1,5] ?_)
 | ((with_reducible refine aR (c := Code.region 6 _ true) [0,1,5] ?_); (with_reducible refine aD ?_ ?_ ?_ ?_); (focus kernel_rfl); (focus kernel_rfl); (focus kernel_rfl))
 | (with_reducible first | refine aP 7 [] ?_ | refine aP 8 [] ?_))
 | ((with_reducible show AW _ (Code.loop _) _ _); first
 | ((with_reducible refine aL (c := (Code.seq (Code.seq (Code.region 4 _ _) _) _)) (ι := Nat) [0,1] (fun i => [(5, iA .i64 (i : Int))]) (fun i => []) (fun i => i <= n /\ (∀ i', i' < i -> s i' = t i')) (fun i => n - i) 0 ?lg4 ?l14 ?l24 ?li4 ?lr4); (case' lg4 => rintro i _); (case' li4 => try (exact ⟨Nat.zero_le _, fun i hi => absurd hi (Nat.not_lt_zero _)⟩)); (case' lr4 => rintro i ⟨hi, hai⟩ KR hR4; simp only [bf, bN, hset, lk, if_true, if_false, xE, reduceIte, zN]))))
 | (((with_reducible refine And.intro ?_ ?_)); focus (omega))
 | (with_reducible refine aA ?_)
 | ((with_reducible show aY _ _ _ _ _ _); first
 | ((with_reducible refine aH ?_ ?_) <;> (intro hc; (try simp only [zB, zC, reduceCtorEq] at hc); (try (exfalso; contradiction)))))
 | ((with_reducible refine And.intro ?_ ?_); focus ((with_reducible show fB _ _ _ = true); kernel_rfl))
 | ((with_reducible refine hR4 _ (i + 1) ?_); (try clear hR4 KR))
 | ((with_reducible refine Told.mk ?_); simp only [go_sem, reduceIte, reduceCtorEq, xA, xL, xD, xE, xM, xS, xB, bG] <;> ((((try simp (disch := omega) only [aJ, Int.natCast_add, Int.cast_ofNat_Int, and_true, true_and, and_self]); (repeat' (first | omega | (with_reducible refine And.intro ?_ ?_) | (exact all_succ (by assumption) (by assumption)) )); done))))
 | ((fail_if_success (with_reducible show AW _ _ _ _)); simp (maxSteps := 2000000) only [go_sem, reduceIte, reduceCtorEq, xA, xL, xD, xE, xM, xS, xB, Tryz.f23, bG])
 | ((with_reducible refine hK _ ?_); clear hK K)
 | (with_reducible apply_assumption -exfalso only [*]))
  all_goals first | exact ad8 (by assumption) | exact adg (by assumption) hc | exact aa3 (by omega) (by assumption) hai | skip
theorem qh (q : Nat) (a : Nat -> Int) (x : Int) (hq : q <= 9223372036854775807) : au Tryz.prog 28 [.one (.lst 1 q (bG a)), .one (.g (.int .i64 x))] (.t (.one (.g (.bool (iX q a x))))) := by
  refine ah Tryz.func28 rfl (by rw [Tryz.ntmps28]; simp) ?_
  simp only [Tryz.ntmps28, zM, PT.tv, ak, Nat.zero_add, Nat.reduceAdd]
  repeat' (first
 | ((with_reducible show AW _ _ _ _); first
 | (with_reducible first | refine aS (fun K hK => ?_) | refine aI ?_ | refine aX ?_ | refine aT ?_ | refine aC ?_ | refine aB ?_)
 | (first
 | (with_reducible first | refine aP 0 [0,1] ?_ | refine aP 1 [0,1] ?_ | refine aP 2 [0,1,5] ?_ | refine aP 3 [0,1,5] ?_ | refine aP 4 [0,1,5] ?_ | refine aP 5 [] ?_ | refine aP 6 [] ?_))
 | ((with_reducible show AW _ (Code.loop _) _ _); first
 | ((with_reducible refine aL (c := (Code.seq (Code.seq (Code.region 2 _ _) _) _)) (ι := Nat) [0,1] (fun i => [(5, iA .i64 (i : Int))]) (fun i => []) (fun i => i <= q /\ (∀ i', i' < i -> a i' ≠ x)) (fun i => q - i) 0 ?lg2 ?l12 ?l22 ?li2 ?lr2); (case' lg2 => rintro i _); (case' li2 => try (exact ⟨Nat.zero_le _, fun i hi => absurd hi (Nat.not_lt_zero _)⟩)); (case' lr2 => rintro i ⟨hi, hai⟩ KR hR2; simp only [bf, bN, hset, lk, if_true, if_false, xE, reduceIte, zN]))))
 | (((with_reducible refine And.intro ?_ ?_)); focus (omega))
 | (with_reducible refine aA ?_)
 | ((with_reducible show aY _ _ _ _ _ _); first
 | ((with_reducible refine aH ?_ ?_) <;> (intro hc; (try simp only [zB, zC, reduceCtorEq] at hc); (try (exfalso; contradiction)))))
 | ((with_reducible refine hR2 _ (i + 1) ?_); (try clear hR2 KR))
 | ((with_reducible refine Told.mk ?_); simp only [go_sem, reduceIte, reduceCtorEq, xA, xL, xD, xE, xM, xS, xB, bG] <;> ((((try simp (disch := omega) only [aJ, Int.natCast_add, Int.cast_ofNat_Int, and_true, true_and, and_self]); (repeat' (first | omega | (with_reducible refine And.intro ?_ ?_) | (exact all_succ (by assumption) (by assumption)) )); done))))
 | ((fail_if_success (with_reducible show AW _ _ _ _)); simp (maxSteps := 2000000) only [go_sem, reduceIte, reduceCtorEq, xA, xL, xD, xE, xM, xS, xB, Tryz.f28, bG])
 | ((with_reducible refine hK _ ?_); clear hK K)
 | (with_reducible apply_assumption -exfalso only [*]))
  all_goals first | exact ac8 (by assumption) hc | exact adD (by assumption) hai | skip
theorem OB (n m : Nat) (f g : Nat -> aF) (hn : n <= 9223372036854775807) (hm : m <= 9223372036854775807) (hf : ∀ i, i < n -> (f i).Ok) (hg : ∀ i, i < m -> (g i).Ok) : au Tryz.prog 19 [.one (.lst 9 n (bq f)), .one (.lst 9 m (bq g))] (.t (.one (.g (.bool (JC n m f g))))) := by
  refine ah Tryz.func19 rfl (by rw [Tryz.ntmps19]; simp) ?_
  simp only [Tryz.ntmps19, zM, PT.tv, ak, Nat.zero_add, Nat.reduceAdd]
  repeat' (first
 | ((with_reducible show AW _ _ _ _); first
 | (with_reducible first | refine aS (fun K hK => ?_) | refine aI ?_ | refine aX ?_ | refine aT ?_ | refine aC ?_ | refine aB ?_)
 | (first
 | (with_reducible first | refine aP 0 [0,1] ?_ | refine aP 1 [0,1] ?_ | refine aP 2 [] ?_ | refine aP 3 [0,1] ?_ | refine aP 4 [0,1,5] ?_ | refine aP 5 [0,1,5] ?_)
 | ((with_reducible refine aR (c := Code.region 6 _ true) [0,1,5] ?_); (with_reducible refine aD ?_ ?_ ?_ ?_); (focus kernel_rfl); (focus kernel_rfl); (focus kernel_rfl))
 | (with_reducible first | refine aP 7 [] ?_ | refine aP 8 [] ?_))
 | ((with_reducible show AW _ (Code.loop _) _ _); first
 | ((with_reducible refine aL (c := (Code.seq (Code.seq (Code.region 4 _ _) _) _)) (ι := Nat) [0,1] (fun i => [(5, iA .i64 (i : Int))]) (fun i => []) (fun i => i <= n /\ (∀ i', i' < i -> tF (f i') (g i') = true)) (fun i => n - i) 0 ?lg4 ?l14 ?l24 ?li4 ?lr4); (case' lg4 => rintro i _); (case' li4 => try (exact ⟨Nat.zero_le _, fun i hi => absurd hi (Nat.not_lt_zero _)⟩)); (case' lr4 => rintro i ⟨hi, hai⟩ KR hR4; simp only [bf, bN, hset, lk, if_true, if_false, xE, reduceIte, zN]))))
 | ((first | (with_reducible refine And.intro ?_ ?_) | (with_reducible refine Need.mk ?_)); focus (first | exact True.intro | omega))
 | (with_reducible refine aA ?_)
 | ((with_reducible show aY _ _ _ _ _ _); first
 | ((with_reducible refine aH ?_ ?_) <;> (intro hc; (try simp only [zB, zC, reduceCtorEq] at hc); (try (exfalso; contradiction)))))
 | ((with_reducible refine And.intro ?_ ?_); focus ((with_reducible show fB _ _ _ = true); kernel_rfl))
 | ((with_reducible show dA _ _ _ _ _ _ _ _ _ _ _ _ _); first
 | (refine aV (k := 45) Du (Gg (f i) (g i) (hf i (by omega)) (hg i (by omega))) ?_ ?_))
 | ((with_reducible refine hR4 _ (i + 1) ?_); (try clear hR4 KR))
 | ((with_reducible refine Told.mk ?_); simp only [go_sem, reduceIte, reduceCtorEq, xA, xL, xD, xE, xM, xS, xB] <;> ((((try simp (disch := omega) only [aJ, Int.natCast_add, Int.cast_ofNat_Int, and_true, true_and, and_self]); (repeat' (first | omega | (with_reducible refine And.intro ?_ ?_) | (exact all_succ (by assumption) (by assumption)) )); done))))
 | ((fail_if_success (with_reducible show AW _ _ _ _)); simp (maxSteps := 2000000) only [go_sem, reduceIte, reduceCtorEq, xA, xL, xD, xE, xM, xS, xB, Tryz.f19])
 | ((with_reducible refine hK _ ?_); clear hK K)
 | (with_reducible apply_assumption -exfalso only [*]))
  all_goals first | exact abe (by assumption) | exact adR (by assumption) hc | exact abP (by omega) (by assumption) hai | skip
end Go.Proofs.YtmnejmpjmniiiaaGreatDoor
namespace Go.Proofs.YtmnejmpjmniiiaaGreatDoor
open Go.RowKit Go.Sea
def Ji (T : Nat -> Bool) : Nat -> Nat
  | 0 => 0
  | i + 1 => Ji T i ||| if T i = true then 2 ^ i else 0
theorem mX {T : Nat -> Bool} {t : Nat} : ∀ m, (Ji T m).testBit t = true ↔ t < m /\ T t = true
  | 0 => by simp [Ji]
  | m + 1 => by
    show (Ji T m ||| _).testBit t = true ↔ _
    rw [Nat.testBit_or, Bool.or_eq_true, mX m]
    constructor
    · rintro (⟨h1, h2⟩ | h)
      · exact ⟨by omega, h2⟩
      · split at h
        · rename_i g
          rw [Nat.testBit_two_pow, decide_eq_true_eq] at h
          subst h; exact ⟨by omega, g⟩
        · simp at h
    · rintro ⟨h1, h2⟩
      rcases (by omega : t < m \/ t = m) with q | rfl
      · exact Or.inl ⟨q, h2⟩
      · right; rw [if_pos h2, Nat.testBit_two_pow]; simp
def xY (T : Nat -> Bool) (m : Nat) : List Nat := (List.range m).filter T
def jE (S : Nat -> aK) (T : Nat -> Bool) (m : Nat) : List Int := (xY T m).map fun i => (S i).nu
theorem lN (S : Nat -> aK) (T : Nat -> Bool) : jE S T 0 = [] := rfl
theorem Dh {S : Nat -> aK} {T : Nat -> Bool} {i : Nat} (h : T i = true) : jE S T (i + 1) = jE S T i ++ [(S i).nu] := by
  unfold jE xY; rw [List.range_succ, List.filter_append, List.map_append, List.filter_cons_of_pos h]; rfl
theorem oD {S : Nat -> aK} {T : Nat -> Bool} {i : Nat} (h : T i = false) : jE S T (i + 1) = jE S T i := by
  unfold jE xY; rw [List.range_succ, List.filter_append, List.map_append, List.filter_cons_of_neg (by rw [h]; simp)]; simp
theorem wD (S : Nat -> aK) (T : Nat -> Bool) (m : Nat) : (jE S T m).length <= m := by
  unfold jE xY; rw [List.length_map]; exact Nat.le_trans (List.length_filter_le ..) (by simp)
theorem u6 {T : Nat -> Bool} {m i : Nat} : i ∈ xY T m ↔ i < m /\ T i = true := by unfold xY; simp
theorem DL {S : Nat -> aK} {T : Nat -> Bool} {m j : Nat} (h : j < (jE S T m).length) : ∃ i, (xY T m)[j]? = some i /\ zL (jE S T m) j = (S i).nu /\ i < m /\ T i = true := by
  have h' : j < (xY T m).length := by unfold jE at h; simpa using h
  refine ⟨(xY T m)[j], List.getElem?_eq_getElem h', ?_, ?_⟩
  · unfold zL jE; simp [List.getD_eq_getElem?_getD, List.getElem?_eq_getElem h']
  · exact u6.1 (List.getElem_mem h')
theorem NR {S : Nat -> aK} {m : Nat} (hv : vsB S m = true) (T : Nat -> Bool) : fK S m (jE S T m).length (zL (jE S T m)) = true := by
  refine decide_eq_true fun j hj => ?_
  obtain ⟨i, e1, e2, h1, h2⟩ := DL hj
  refine ⟨by rw [e2, zI hv h1]; exact h1, ?_⟩
  unfold lsA
  split
  · rename_i h0
    rw [<- h0] at *
    have := ((of_decide_eq_true hv).2 i h1).1
    have := of_decide_eq_true this
    rw [e2]; omega
  · rename_i h0
    obtain ⟨k, f1, f2, g1, g2⟩ := DL (S := S) (T := T) (m := m) (j := j - 1) (by omega)
    rw [e2, f2]
    refine vL hv ?_ h1
    obtain ⟨a1, a2⟩ := List.getElem?_eq_some_iff.1 e1
    obtain ⟨b1, b2⟩ := List.getElem?_eq_some_iff.1 f1
    have hp : (xY T m).Pairwise (· < ·) := List.Pairwise.sublist List.filter_sublist List.pairwise_lt_range
    have := List.pairwise_iff_getElem.1 hp (j - 1) j b1 a1 (by omega)
    rw [a2, b2] at this; exact this
theorem jS {S : Nat -> aK} {m : Nat} {a : Nat -> Int} {t : Nat} : ∀ j, (JO S m a j).testBit t = true ↔ ∃ u, u < j /\ eT S m (a u) = t
  | 0 => by simp [JO]
  | j + 1 => by
    show (JO S m a j ||| 2 ^ _).testBit t = true ↔ _
    rw [Nat.testBit_or, Bool.or_eq_true, jS j, Nat.testBit_two_pow, decide_eq_true_eq]
    constructor
    · rintro (⟨u, h1, h2⟩ | h)
      · exact ⟨u, by omega, h2⟩
      · exact ⟨j, by omega, h⟩
    · rintro ⟨u, h1, h2⟩
      rcases (by omega : u < j \/ u = j) with q | rfl
      · exact Or.inl ⟨u, q, h2⟩
      · exact Or.inr h2
theorem Qg {S : Nat -> aK} {m : Nat} (hv : vsB S m = true) (T : Nat -> Bool) : JO S m (zL (jE S T m)) (jE S T m).length = Ji T m := by
  apply Nat.eq_of_testBit_eq
  intro t
  rw [Bool.eq_iff_iff, jS, mX]
  constructor
  · rintro ⟨u, h1, h2⟩
    obtain ⟨i, e1, e2, g1, g2⟩ := DL h1
    rw [e2, zI hv g1] at h2
    subst h2; exact ⟨g1, g2⟩
  · rintro ⟨h1, h2⟩
    have hm : t ∈ xY T m := u6.2 ⟨h1, h2⟩
    obtain ⟨u, hu, e⟩ := List.mem_iff_getElem.1 hm
    have hu' : u < (jE S T m).length := by unfold jE; simpa using hu
    obtain ⟨i, e1, e2, g1, g2⟩ := DL hu'
    rw [List.getElem?_eq_getElem hu, e] at e1
    cases e1
    exact ⟨u, hu', by rw [e2, zI hv g1]⟩
theorem ag8 {x : bF} (he : cB x = 0) (T : Nat -> Bool) : fH x (jE x.S T x.m).length (zL (jE x.S T x.m)) = 0 /\ iN x (jE x.S T x.m).length (zL (jE x.S T x.m)) = dS (iU x) (Ji T x.m) := by
  obtain ⟨hv, _⟩ := cK he
  have hs := NR hv T
  have e : fH x (jE x.S T x.m).length (zL (jE x.S T x.m)) = 0 := by rw [Bh (by omega) hs, he]
  refine ⟨e, ?_⟩
  unfold iN
  rw [if_pos e]
  show dS (iU x) (JO x.S x.m (zL (jE x.S T x.m)) (jE x.S T x.m).length) = _
  rw [Qg hv T]
theorem uh {x : bF} {q : Nat} {a : Nat -> Int} (h : fH x q a = 0) : cB x = 0 /\ fK x.S x.m q a = true /\ iV x.m (eG x q a) /\ iN x q a = dS (iU x) (eG x q a) := by
  have h0 : iN x q a = dS (iU x) (eG x q a) := by unfold iN; rw [if_pos h]
  unfold fH at h
  split at h
  · exact absurd h (by decide)
  · split at h
    · exact absurd h (by decide)
    · rename_i h1 h2
      have hs : fK x.S x.m q a = true := by
        cases e : fK x.S x.m q a with
        | true => rfl
        | false => exact absurd e h2
      exact ⟨h, hs, qI (of_decide_eq_true hs), h0⟩
def ais (l : List Int) (y : Int) : Bool := iX l.length (zL l) y
theorem TD {l : List Int} {y : Int} : ais l y = true ↔ y ∈ l := by
  unfold ais iX
  rw [decide_eq_true_eq]
  constructor
  · rintro ⟨i, h1, h2⟩
    rw [<- h2]; unfold zL
    simp only [List.getD_eq_getElem?_getD, List.getElem?_eq_getElem h1, Option.getD_some]
    exact List.getElem_mem h1
  · intro h
    obtain ⟨i, h1, h2⟩ := List.mem_iff_getElem.1 h
    refine ⟨i, h1, ?_⟩
    unfold zL
    simp only [List.getD_eq_getElem?_getD, List.getElem?_eq_getElem h1, Option.getD_some]; exact h2
theorem yH {S : Nat -> aK} {m q : Nat} {a : Nat -> Int} (hv : vsB S m = true) (h : fK S m q a = true) : q <= m := by
  have hs := of_decide_eq_true h
  have key : ∀ j, j <= q -> ∀ u, u < j -> u <= eT S m (a u) := by
    intro j
    induction j with
    | zero => intro _ u h; omega
    | succ j ih =>
      intro hj u hu
      rcases (by omega : u < j \/ u = j) with g | rfl
      · exact ih (by omega) u g
      · rcases Nat.eq_zero_or_pos u with rfl | h0
        · exact Nat.zero_le _
        · have h1 := ih (by omega) (u - 1) (by omega)
          have h2 := (hs u (by omega)).2
          unfold lsA at h2; rw [if_neg (by omega)] at h2
          have h3 := (hs u (by omega)).1
          have h4 := (hs (u - 1) (by omega)).1
          have e1 := pE h3
          have e2 := pE h4
          have h5 : eT S m (a (u - 1)) < eT S m (a u) := by
            rcases Nat.lt_or_ge (eT S m (a (u - 1))) (eT S m (a u)) with g | g
            · exact g
            · rcases Nat.lt_or_eq_of_le g with g | g
              · have := vL hv g h4; rw [e1, e2] at this; omega
              · rw [g, e2] at e1; omega
          omega
  rcases Nat.eq_zero_or_pos q with rfl | h0
  · exact Nat.zero_le _
  · have h1 := key q (Nat.le_refl q) (q - 1) (by omega)
    have h2 := (hs (q - 1) (by omega)).1
    omega
end Go.Proofs.YtmnejmpjmniiiaaGreatDoor
