/- Part 12 of 16: contracts of functions and plain laws for the root text. No condition. -/
import Derived.Test.YtcfechepbamhkaaGreatY01
import Derived.Test.YtcfechepbamhkaaGreatY02
import Derived.Test.YtcfechepbamhkaaGreatY03
import Derived.Test.YtcfechepbamhkaaGreatY04
import Derived.Test.YtcfechepbamhkaaGreatY05
import Derived.Test.YtcfechepbamhkaaGreatY06
import Derived.Test.YtcfechepbamhkaaGreatY07
import Derived.Test.YtcfechepbamhkaaGreatY08
import Derived.Test.YtcfechepbamhkaaGreatY09
import Derived.Test.YtcfechepbamhkaaGreatY10
import Derived.Test.YtcfechepbamhkaaGreatY11
set_option linter.unusedVariables false
set_option linter.unusedSimpArgs false
set_option maxRecDepth 100000
set_option maxHeartbeats 4000000
namespace Go.Proofs.YtcfechepbamhkaaGreat
open Go.RowKit Go.Sea
open Nat renaming reduceAdd -> xA, reduceLT -> xL, reduceLeDiff -> xD, reduceEqDiff -> xE, reduceMul -> xM, reduceSub -> xS, reduceBEq -> xB
theorem Io : aK Tryz.prog 129 = true := by kernel_rfl
theorem U0 : aK Tryz.prog 167 = true := by kernel_rfl
theorem akR : fJ Tryz.prog 36 = some [.iv (.g (.slice none 0 0))] := by kernel_rfl
attribute [go_sem] Na Io adN akR
def Fu (s : bE) (N : Nat -> ah) (i : Nat) : Bool := mU (N i) s.ch && !iD s.q s.dn (N i).nu
def mo (s : bE) (N : Nat -> ah) : Nat -> List Int
  | 0 => []
  | i + 1 => if Fu s N i = true then mo s N i ++ [(N i).nu] else mo s N i
theorem Au (s : bE) (N : Nat -> ah) : mo s N 0 = [] := rfl
theorem agc {s : bE} {N : Nat -> ah} {i : Nat} (h : Fu s N i = true) : mo s N (i + 1) = mo s N i ++ [(N i).nu] := by show (if _ then _ else _) = _; rw [if_pos h]
theorem Yd {s : bE} {N : Nat -> ah} {i : Nat} (h : Fu s N i = false) : mo s N (i + 1) = mo s N i := by show (if _ then _ else _) = _; rw [if_neg (by rw [h]; simp)]
theorem zJ (s : bE) (N : Nat -> ah) : ∀ i, (mo s N i).length <= i
  | 0 => Nat.le_refl _
  | i + 1 => by
    have := zJ s N i
    show (if _ then _ else _ : List Int).length <= _
    split
    · simp; omega
    · omega
theorem ae6 {s : bE} {N : Nat -> ah} {i : Nat} (h : mU (N i) s.ch = true) (h2 : iD s.q s.dn (N i).nu = false) : Fu s N i = true := by unfold Fu; rw [h, h2]; rfl
theorem abS {s : bE} {N : Nat -> ah} {i : Nat} (h : mU (N i) s.ch = false) : Fu s N i = false := by unfold Fu; rw [h]; rfl
theorem aa5 {s : bE} {N : Nat -> ah} {i : Nat} (h : iD s.q s.dn (N i).nu = true) : Fu s N i = false := by unfold Fu; rw [h]; simp
theorem ajo {N : ah} {ch : Int} (h : iU N ch = true /\ N.kd = 1) : mU N ch = true := by unfold mU; rw [h.1]; simp [h.2]
theorem ajW {N : ah} {ch : Int} (h : iU N ch = false \/ N.kd ≠ 1) : mU N ch = false := by
  unfold mU; rcases h with h | h <;> simp [h]
def zL (l : List Int) (i : Nat) : Int := l.getD i 0
theorem FH (l : List Int) : ∀ i o, i < l.length -> o < 1 -> (GX ((dU l).getD (i + o) .any)).eqv (.g (.int .i64 (zL l i))) := fun i o hi ho => by
  obtain rfl : o = 0 := by omega
  rw [Nat.add_zero, Dj _ _ hi]; exact IV.bG _
def LK (s : bE) (n : Nat) (N : Nat -> ah) : List Int := mo s N n
def Q7 (s : bE) (n : Nat) (N : Nat -> ah) : Bool := gK s && wZ n N
theorem ajc {s : bE} {n : Nat} {N : Nat -> ah} (h : Q7 s n N = false) (hc : gK s = true /\ wZ n N = true) : False := by unfold Q7 at h; rw [hc.1, hc.2] at h; cases h
def upL (N : Nat -> ah) (mst : Int) : Nat -> Int
  | 0 => 0
  | i + 1 => if (N i).nu < mst then (N i).nu else upL N mst i
theorem adS {N : Nat -> ah} {mst : Int} {i : Nat} (h : (N i).nu < mst) : upL N mst (i + 1) = (N i).nu := by show (if _ then _ else _) = _; rw [if_pos h]
theorem adE {N : Nat -> ah} {mst : Int} {i : Nat} (h : mst <= (N i).nu) : upL N mst (i + 1) = upL N mst i := by show (if _ then _ else _) = _; rw [if_neg (by omega)]
def JG (l : List Int) : Int := if l.length = 0 then 10001 else zL l 0
def YP (s : bE) (n : Nat) (N : Nat -> ah) : Int := if Q7 s n N = true then 0 else 1
def YQ (s : bE) (n : Nat) (N : Nat -> ah) : Int := if Q7 s n N = true then upL N (JG (mo s N n)) n else 0
theorem aec {s : bE} {n : Nat} {N : Nat -> ah} (h : Q7 s n N = false) : YQ s n N = 0 /\ YP s n N = 1 := by unfold YQ YP; rw [h]; exact ⟨rfl, rfl⟩
theorem ajz {s : bE} {n : Nat} {N : Nat -> ah} (h : Q7 s n N = true) : YQ s n N = upL N (JG (mo s N n)) n /\ YP s n N = 0 := by unfold YQ YP; rw [if_pos h, if_pos h]; exact ⟨rfl, rfl⟩
theorem akG {l : List Int} (h : l.length = 0) : JG l = 10001 := by unfold JG; rw [if_pos h]
theorem ajA {l : List Int} (h : l.length ≠ 0) : JG l = zL l 0 := by unfold JG; rw [if_neg h]
theorem adr (s : bE) (n : Nat) (N : Nat -> ah) (hs : s.Ok) (hn : n <= 9223372036854775807) (hN : ∀ i, i < n -> (N i).Ok) (hv : gK s = true) (hn2 : n <= 1000000) : aA Tryz.prog 84 [(qQ s), .one (.lst 7 n (fB N))] (.t (.one (.lst 1 (mo s N n).length (bC (zL (mo s N n)))))) := by
  refine ak Tryz.func84 rfl (by rw [Tryz.ntmps84]; simp) ?_
  simp only [qQ, Tryz.ntmps84, zM, PT.tv, au, Nat.zero_add, Nat.reduceAdd]
  repeat' (first
 | ((refine oW ?_ ?_) <;> (intro hc; (try rw [hc]); (try simp only [zB, zC, reduceCtorEq] at hc); (try (exfalso; contradiction))))
 | ((with_reducible show AW _ _ _ _); first
 | (with_reducible first | refine aS (fun K hK => ?_) | refine aI ?_ | refine aX ?_ | refine aT ?_ | refine aC ?_ | refine aB ?_)
 | ((refine eu (k := 167) rfl Tryz.func167 rfl U0 (by rw [Tryz.ntmps167]; simp) ?_ ?_ (fun l hlne A B hA hB => ?_)); (focus (simp (maxSteps := 2000000) only [go_sem, reduceIte, reduceCtorEq, xA, xL, xD, xE, xM, xS, xB, Tryz.f84, Tryz.f167, Tryz.f129, bC, bF, fA, aZ, maxLen, Au, List.length_append, List.length_cons, List.length_nil]; try exact True.intro)); (focus (simp (maxSteps := 2000000) only [go_sem, reduceIte, reduceCtorEq, xA, xL, xD, xE, xM, xS, xB, Tryz.f84, Tryz.f167, Tryz.f129, bC, bF, fA, aZ, maxLen, Au, List.length_append, List.length_cons, List.length_nil]; try exact True.intro)); simp only [Tryz.ntmps167, List.map_cons, List.map_nil, LV.tv, au, yV, Nat.zero_add, Nat.reduceAdd]; clear hlne)
 | (with_reducible refine tZ (by assumption) ?_)
 | (first
 | (with_reducible first | refine aP (ops := #[⟨some 2, _, _, _, _, _⟩, _]) 0 [0,1,12] ?_ | refine aP (ops := #[⟨some 8, _, _, _, _, _⟩, _, _]) 0 [0,1,2] ?_ | refine aP (ops := #[⟨some 2, _, _, _, _, _⟩, _, _]) 0 [0,1] ?_ | refine aP (ops := #[⟨some 5, _, _, _, _, _⟩]) 1 [1,2,12] ?_ | refine aP (ops := #[⟨some 11, _, _, _, _, _⟩]) 1 [0,2,8,9,10] ?_ | refine aP (ops := #[⟨some 5, _, _, _, _, _⟩, _]) 1 [2,3] ?_ | refine aP (ops := #[⟨some 7, _, _, _, _, _⟩, _, _, _, _]) 2 [1,2,5,12] ?_ | refine aP (ops := #[⟨some 12, _, _, _, _, _⟩, _, _, _]) 2 [0,2,8,9,10] ?_ | refine aP (ops := #[⟨some 6, _, _, _, _, _⟩, _]) 3 [2,5,12] ?_ | refine aP (ops := #[⟨some 15, _, _, _, _, _⟩, _, _, _, _, _, _, _, _]) 3 [0,2,5,8,9,10] ?_ | refine aP (ops := #[⟨some 14, _, _, _, _, _⟩, _, _, _, _]) 4 [2,5,6,12] ?_ | refine aP (ops := #[⟨some 20, _, _, _, _, _⟩, _, _, _, _, _, _, _, _, _, _, _, _]) 4 [0,2,5,6,7,8,9,10] ?_ | refine aP (ops := #[⟨some 19, _, _, _, _, _⟩, _, _, _, _, _]) 5 [2,5,6,12] ?_ | refine aP (ops := #[⟨some 33, _, _, _, _, _⟩, _]) 5 [0,2,8,9,10] ?_ | refine aP 6 [5] ?_))
 | ((with_reducible show AW _ (Code.loop _) _ _); first
 | ((with_reducible refine aL (c := (Code.seq (Code.region 1 _ _) _)) (ι := Nat) [0,2,8,9] (fun i => [(10, iA .i64 (i : Int))]) (fun i => [(1, [.slc 8 0 (mo s N i).length 1]), (8, dU (mo s N i))]) (fun i => i <= n) (fun i => n - i) 0 ?lg1 ?l11 ?l21 ?li1 ?lr1); (case' lg1 => rintro i _); (case' li1 => try (omega)); (case' lr1 => rintro i hi KR hR1; have oL := zJ s N i; simp only [bD, dD, hset, lk, if_true, if_false, xE, reduceIte, zN, bF, fA, aZ, maxLen, Au, List.length_append, List.length_cons, List.length_nil]))))
 | ((first | (with_reducible refine And.intro ?_ ?_) | (with_reducible refine Need.mk ?_)); focus (first | exact True.intro | omega))
 | (with_reducible refine aJ ?_)
 | ((with_reducible show bL _ _ _ _ _ _); first
 | ((with_reducible refine aM ?_ ?_) <;> (intro hc; (try simp only [zB, zC, reduceCtorEq] at hc); ((try (have hNi := (hN i (by omega)).n)); (try (have e0 : n = i := (by omega); subst e0))); (try (exfalso; contradiction)))))
 | ((with_reducible show aW _ _ _ _ _ _ _ _ _ _); first
 | (refine aF (k := 96) tC (EM (N i) s.ch (hN i (by omega))) ?_ ?_)
 | (refine aF (k := 98) zG (XK s _ hs hv) ?_ ?_)
 | ((refine dw (k := 129) Tryz.func129 rfl Io (by rw [Tryz.ntmps129]; simp) ?_ ?_ (fun K hK => ?_)); (focus (exact True.intro)); (focus ((simp [jo]; done))); simp only [Tryz.ntmps129, List.map_cons, List.map_nil, List.nil_append, List.cons_append, List.append_nil, LV.tv, au, Nat.zero_add, Nat.reduceAdd]))
 | ((with_reducible refine hR1 _ (i + 1) ?_); (try clear hR1 KR))
 | ((with_reducible refine Told.mk ?_); simp only [go_sem, reduceIte, reduceCtorEq, xA, xL, xD, xE, xM, xS, xB, bC, bF, fA, aZ, maxLen, Au, List.length_append, List.length_cons, List.length_nil] <;> ((((try simp (disch := omega) only [aY, Int.natCast_add, Int.cast_ofNat_Int, and_true, true_and, and_self]); (repeat' (first | omega | rfl | (with_reducible refine And.intro ?_ ?_) | ((first | rw [Yd (abS (ajW (by assumption)))] | rw [agc (ae6 (ajo (by assumption)) (by assumption))] | rw [Yd (aa5 (by assumption))])) | ((exact jQ rfl (ig _))) | ((simp only [List.length_append, List.length_cons, List.length_nil, Nat.zero_add]; done)))); done))))
 | ((fail_if_success (with_reducible show AW _ _ _ _)); simp (maxSteps := 2000000) only [go_sem, reduceIte, reduceCtorEq, xA, xL, xD, xE, xM, xS, xB, Tryz.f84, Tryz.f167, Tryz.f129, bC, bF, fA, aZ, maxLen, Au, List.length_append, List.length_cons, List.length_nil])
 | ((with_reducible show aW _ _ _ _ _ _ (.yld _) _ _ _); (refine kU (by simp only [Eh, if_true]; exact rfl) ?_ (by simp) ?_ ?_ (fun K hK => ?_)); (focus (exact True.intro)); (focus (simp [mE])); (focus ((simp [jo]; done))); simp only [iT, gf, if_true, Nat.reduceAdd])
 | ((with_reducible refine hK _ ?_); clear hK K)
 | (with_reducible apply_assumption -exfalso only [*]))
  all_goals ((exact ⟨fun c hc9 => (by have := ig _ c hc9; cases c <;> trivial), fun i o hi ho => FH _ i o hi ho⟩))
end Go.Proofs.YtcfechepbamhkaaGreat
set_option maxRecDepth 100000
set_option maxHeartbeats 4000000
namespace Go.Proofs.YtcfechepbamhkaaGreat
open Go.RowKit Go.Sea
open Nat renaming reduceAdd -> xA, reduceLT -> xL, reduceLeDiff -> xD, reduceEqDiff -> xE, reduceMul -> xM, reduceSub -> xS, reduceBEq -> xB
theorem JJ : aK Tryz.prog 111 = true := by kernel_rfl
theorem Yz : aK Tryz.prog 125 = true := by kernel_rfl
theorem Ow : aK Tryz.prog 62 = true := by kernel_rfl
theorem abT : aK Tryz.prog 63 = true := by kernel_rfl
theorem ahm : fE Tryz.prog 109 = true := by kernel_rfl
theorem aeG : JC Tryz.prog 108 = none := by kernel_rfl
theorem ahk : mpE Tryz.prog 108 = some 4 := by kernel_rfl
theorem X3 : dz Tryz.prog 109 0 = some (0, 1) := by kernel_rfl
theorem VW : dz Tryz.prog 109 1 = some (1, 1) := by kernel_rfl
theorem afB : fJ Tryz.prog 109 = some [.iv (.g (.int .i64 0)), .iv (.g (.int .i64 0))] := by kernel_rfl
theorem alS : ZJ Tryz.prog 4 = some (.one (.g (.bool false))) := by kernel_rfl
attribute [go_sem] JJ Yz Ow ahm aeG ahk X3 VW afB alS
def agV (N : ah) (t : Int) : Bool := decide (N.kd = 3 \/ N.kd = 2 /\ t < N.un)
def wJ (n : Nat) (N : Nat -> ah) (t o u : Int) : Bool := decide (∃ j, j < n /\ ((N j).kd = 4 /\ (N j).fr <= t) /\ (N j).oc = o /\ (N j).ca = u)
def xV (N : Nat -> ah) (t : Int) (i : Nat) (a b : Int) : Option PT := if wJ i N t a b = true then some (.one (.g (.bool true))) else none
theorem Af (N : Nat -> ah) (t : Int) : xV N t 0 = fun _ _ => none := by
  funext a b; unfold xV; rw [if_neg]; intro h; obtain ⟨j, hj, _⟩ := of_decide_eq_true h; exact Nat.not_lt_zero j hj
theorem ahl {N : Nat -> ah} {t : Int} {i : Nat} (h : (N i).kd = 4 /\ (N i).fr <= t) : oK (xV N t i) ((N i).oc, (N i).ca) (.one (.g (.bool true))) = xV N t (i + 1) := by
  funext a b
  unfold oK xV
  by_cases hk : a = (N i).oc /\ b = (N i).ca
  · rw [if_pos hk, if_pos]
    exact decide_eq_true ⟨i, Nat.lt_succ_self i, h, hk.1.symm, hk.2.symm⟩
  · rw [if_neg hk]
    have e : wJ i N t a b = wJ (i + 1) N t a b := by
      unfold wJ; rw [Bool.eq_iff_iff, decide_eq_true_eq, decide_eq_true_eq]
      constructor
      · rintro ⟨j, hj, g⟩; exact ⟨j, by omega, g⟩
      · rintro ⟨j, hj, g⟩
        rcases Nat.lt_or_ge j i with q | q
        · exact ⟨j, q, g⟩
        · obtain rfl : j = i := by omega
          exact absurd ⟨g.2.1.symm, g.2.2.symm⟩ hk
    rw [e]
theorem ahJ {N : Nat -> ah} {t : Int} {i : Nat} (h : (N i).kd ≠ 4 \/ t < (N i).fr) : xV N t (i + 1) = xV N t i := by
  funext a b
  have e : wJ (i + 1) N t a b = wJ i N t a b := by
    unfold wJ; rw [Bool.eq_iff_iff, decide_eq_true_eq, decide_eq_true_eq]
    constructor
    · rintro ⟨j, hj, g⟩
      rcases Nat.lt_or_ge j i with q | q
      · exact ⟨j, q, g⟩
      · obtain rfl : j = i := by omega
        exfalso
        rcases h with h | h
        · exact h g.1.1
        · have := g.1.2; omega
    · rintro ⟨j, hj, g⟩; exact ⟨j, by omega, g⟩
  unfold xV; rw [e]
theorem agG {n : Nat} {N : Nat -> ah} {t a b : Int} (h : wJ n N t a b = true) : xV N t n a b = some (.one (.g (.bool true))) := by unfold xV; rw [if_pos h]
theorem aeQ {n : Nat} {N : Nat -> ah} {t a b : Int} (h : wJ n N t a b = false) : xV N t n a b = none := by unfold xV; rw [if_neg (by rw [h]; simp)]
def xR (n : Nat) (N : Nat -> ah) (t : Int) (i : Nat) : Bool := agV (N i) t && decide ((N i).fr <= t) && !wJ n N t (N i).oc (N i).nu
def sQ (n : Nat) (N : Nat -> ah) (t : Int) : Nat -> List Int
  | 0 => []
  | i + 1 => if xR n N t i = true then sQ n N t i ++ [(i : Int)] else sQ n N t i
theorem A8 (n : Nat) (N : Nat -> ah) (t : Int) : sQ n N t 0 = [] := rfl
theorem ahL {n : Nat} {N : Nat -> ah} {t : Int} {i : Nat} (h : xR n N t i = true) : sQ n N t (i + 1) = sQ n N t i ++ [(i : Int)] := by show (if _ then _ else _) = _; rw [if_pos h]
theorem Ma {n : Nat} {N : Nat -> ah} {t : Int} {i : Nat} (h : xR n N t i = false) : sQ n N t (i + 1) = sQ n N t i := by show (if _ then _ else _) = _; rw [if_neg (by rw [h]; simp)]
theorem Em (n : Nat) (N : Nat -> ah) (t : Int) : ∀ i, (sQ n N t i).length <= i
  | 0 => Nat.le_refl _
  | i + 1 => by
    have := Em n N t i
    show (if _ then _ else _ : List Int).length <= _
    split
    · simp; omega
    · omega
theorem aij {n : Nat} {N : Nat -> ah} {t : Int} {i : Nat} (h : (N i).fr <= t) (h2 : wJ n N t (N i).oc (N i).nu = false) (h3 : (N i).kd = 3 \/ (N i).kd = 2 /\ t < (N i).un) : xR n N t i = true := by
  unfold xR agV; rw [h2, decide_eq_true h, decide_eq_true h3]; rfl
theorem af6 {n : Nat} {N : Nat -> ah} {t : Int} {i : Nat} (h : t < (N i).fr) : xR n N t i = false := by
  unfold xR; rw [decide_eq_false (by omega), Bool.and_false]; rfl
theorem agY {n : Nat} {N : Nat -> ah} {t : Int} {i : Nat} (h : wJ n N t (N i).oc (N i).nu = true) : xR n N t i = false := by
  unfold xR; rw [h]; simp
theorem ag0 {n : Nat} {N : Nat -> ah} {t : Int} {i : Nat} (h : ¬ ((N i).kd = 3 \/ (N i).kd = 2 /\ t < (N i).un)) : xR n N t i = false := by
  unfold xR agV; rw [decide_eq_false h]; rfl
theorem agX {n : Nat} {N : Nat -> ah} {t : Int} {i : Nat} (h : (N i).kd ≠ 3 /\ ((N i).kd ≠ 2 \/ (N i).un <= t)) : xR n N t i = false := ag0 (by omega)
def acB (n : Nat) (N : Nat -> ah) (t : Int) : Bool := decide (n <= 200 /\ (0 <= t /\ t <= 10000000) /\ ∀ i, i < n -> gM (N i) = true)
def KX (n : Nat) (N : Nat -> ah) (t : Int) : Int := if acB n N t = true then 0 else 1
def iW (n : Nat) (N : Nat -> ah) (t : Int) : List Int := if acB n N t = true then sQ n N t n else []
theorem aiY {n : Nat} {N : Nat -> ah} {t : Int} (h : acB n N t = false) : iW n N t = [] /\ KX n N t = 1 := by unfold iW KX; rw [h]; exact ⟨rfl, rfl⟩
theorem alO {n : Nat} {N : Nat -> ah} {t : Int} (h : (n : Int) > 200 \/ ¬ (0 <= t /\ t <= 10000000)) : iW n N t = [] /\ KX n N t = 1 := aiY (decide_eq_false fun g => by omega)
theorem alJ {n : Nat} {N : Nat -> ah} {t : Int} {i : Nat} (hi : (i : Int) < n) (h : gM (N i) = false) : iW n N t = [] /\ KX n N t = 1 := aiY (decide_eq_false fun g => by have := g.2.2 i (by omega); rw [h] at this; cases this)
theorem alq {n : Nat} {N : Nat -> ah} {t : Int} {i : Nat} (h : (n : Int) <= 200 /\ (0 <= t /\ t <= 10000000)) (hi : (n : Int) <= i) (g : ∀ j, j < i -> gM (N j) = true) : iW n N t = sQ n N t n /\ KX n N t = 0 := by
  have e : acB n N t = true := decide_eq_true ⟨by omega, h.2, fun j hj => g j (by omega)⟩
  unfold iW KX; rw [e]; exact ⟨rfl, rfl⟩
theorem aeS (M : ah) (hM : M.Ok) : aA Tryz.prog 63 [.agg [.g (.int .i64 M.oc), .g (.int .i64 M.nu), .g (.int .i64 M.kd), .g (.int .i64 M.fr), .g (.int .i64 M.un), .g (.int .i64 M.ca), .lst 3 M.n (eO M.p)]] (.t (.one (.g (.bool (!gM M))))) := by
  refine ak Tryz.func63 rfl (by rw [Tryz.ntmps63]; simp) ?_
  simp only [Tryz.ntmps63, zM, PT.tv, au, Nat.zero_add, Nat.reduceAdd]
  repeat' (first
 | ((with_reducible show AW _ _ _ _); first
 | (with_reducible first | refine aS (fun K hK => ?_) | refine aT ?_)
 | (first
 | (with_reducible first | refine aP 0 [0] ?_ | refine aP 1 [1] ?_)))
 | (((with_reducible refine Need.mk ?_)); focus (exact True.intro))
 | (with_reducible refine aJ ?_)
 | ((with_reducible show aW _ _ _ _ _ _ _ _ _ _); first
 | (refine aF (k := 18) jm (pO M hM) ?_ ?_))
 | ((fail_if_success (with_reducible show AW _ _ _ _)); simp (maxSteps := 2000000) only [go_sem, reduceIte, reduceCtorEq, xA, xL, xD, xE, xM, xS, xB, Tryz.f63, bC])
 | ((with_reducible refine hK _ ?_); clear hK K))
theorem MQ (n : Nat) (N : Nat -> ah) (hn : n <= 9223372036854775807) (hN : ∀ i, i < n -> (N i).Ok) (t : Int) : aA Tryz.prog 22 [.one (.lst 7 n (fB N)), .one (.g (.int .i64 t))] (.tup [.one (.lst 1 (iW n N t).length (bC (zL (iW n N t)))), .one (.g (.int .i64 (KX n N t)))]) := by
  have hfk : True := trivial
  have mk1 : True := trivial
  refine ak Tryz.func22 rfl (by rw [Tryz.ntmps22]; simp) ?_
  simp only [Tryz.ntmps22, zM, PT.tv, au, Nat.zero_add, Nat.reduceAdd]
  repeat' (first
 | ((with_reducible show AW _ _ _ _); first
 | (with_reducible first | refine aS (fun K hK => ?_) | refine aI ?_ | refine aX ?_ | refine aT ?_ | refine aC ?_ | refine aB ?_)
 | (first
 | (with_reducible first | refine aP 0 [0,1] ?_ | refine aP (ops := #[⟨some 12, _, _, _, _, _⟩, _, _, _, _, _, _, _, _, _, _, _]) 1 [0,1] ?_ | refine aP (ops := #[⟨some 5, _, _, _, _, _⟩, _, _, _, _]) 1 [0,1] ?_ | refine aP (ops := #[⟨some 6, _, _, _, _, _⟩, _, _]) 1 [0,1] ?_ | refine aP (ops := #[⟨some 4, _, _, _, _, _⟩, _]) 2 [] ?_ | refine aP (ops := #[⟨some 9, _, _, _, _, _⟩]) 2 [0,1,7,8] ?_ | refine aP (ops := #[⟨some 24, _, _, _, _, _⟩, _]) 3 [0,1] ?_ | refine aP (ops := #[⟨some 10, _, _, _, _, _⟩, _]) 3 [0,1,7,8] ?_ | refine aP (ops := #[⟨some 25, _, _, _, _, _⟩, _, _]) 4 [0,1,6] ?_ | refine aP (ops := #[⟨some 11, _, _, _, _, _⟩, _, _, _, _, _]) 4 [0,1,5,7,8] ?_ | refine aP (ops := #[⟨some 28, _, _, _, _, _⟩]) 5 [0,1,6,25,26,27] ?_ | refine aP (ops := #[⟨some 17, _, _, _, _, _⟩, _]) 5 [5] ?_ | refine aP (ops := #[⟨some 29, _, _, _, _, _⟩, _, _, _]) 6 [0,1,6,25,26,27] ?_ | refine aP (ops := #[⟨some 18, _, _, _, _, _⟩, _]) 6 [0,1,7,8] ?_ | refine aP (ops := #[⟨some 31, _, _, _, _, _⟩, _, _, _, _, _, _, _, _]) 7 [0,1,6,8,25,26,27] ?_ | refine aP (ops := #[⟨some 4, _, _, _, _, _⟩]) 7 [] ?_ | refine aP 8 [0,1,6,8,25,26,27] ?_ | refine aP 9 [0,1,6,25,26,27] ?_ | refine aP 10 [0,1,6] ?_ | refine aP 11 [0,1,6,9] ?_ | refine aP 12 [1,6,9,47,48,49] ?_ | refine aP 13 [1,6,9,47,48,49] ?_ | refine aP 14 [1,6,9,10,11,47,48,49] ?_ | refine aP 15 [1,6,9,10,11,47,48,49] ?_ | refine aP 16 [1,6,9,10,47,48,49] ?_ | refine aP 17 [1,6,9,47,48,49] ?_ | refine aP 18 [9] ?_))
 | ((with_reducible show AW _ (Code.loop _) _ _); first
 | ((with_reducible refine aL (c := (Code.seq (Code.region 2 _ _) _)) (ι := Nat) [0,1,7] (fun j => [(8, iA .i64 (j : Int))]) (fun j => []) (fun j => j <= n /\ (∀ i, i < j -> gM (N i) = true)) (fun j => n - j) 0 ?lg2 ?l12 ?l22 ?li2 ?lr2); (case' lg2 => rintro j _); (case' li2 => try (exact ⟨Nat.zero_le _, fun i hi => absurd hi (Nat.not_lt_zero _)⟩)); (case' lr2 => rintro j ⟨hj, hai⟩ KR hR2; simp only [bD, dD, hset, lk, if_true, if_false, xE, reduceIte, zN, A8, bF, fA, aZ, maxLen, List.length_append, hfk, Af]))
 | ((with_reducible refine aL (c := (Code.seq (Code.region 5 _ _) _)) (ι := Nat) [0,1,6,25,26] (fun u => [(27, iA .i64 (u : Int))]) (fun u => [(0, [.m2 (xV N t u)])]) (fun u => u <= n) (fun u => n - u) 0 ?lg5 ?l15 ?l25 ?li5 ?lr5); (case' lg5 => rintro u _); (case' li5 => try (omega)); (case' lr5 => rintro u hu KR hR5; simp only [bD, dD, hset, lk, if_true, if_false, xE, reduceIte, zN, A8, bF, fA, aZ, maxLen, List.length_append, hfk, Af]))
 | ((with_reducible refine aL (c := (Code.seq (Code.region 12 _ _) _)) (ι := Nat) [1,6,47,48] (fun i => [(9, .t (.one (.slc 1 0 (sQ n N t i).length 1))), (49, iA .i64 (i : Int))]) (fun i => [(1, dU (sQ n N t i))]) (fun i => i <= n) (fun i => n - i) 0 ?lg12 ?l112 ?l212 ?li12 ?lr12); (case' lg12 => rintro i _); (case' li12 => try (omega)); (case' lr12 => rintro i hi KR hR12; have oL := Em n N t i; simp only [bD, dD, hset, lk, if_true, if_false, xE, reduceIte, zN, A8, bF, fA, aZ, maxLen, List.length_append, hfk, Af]))))
 | ((first | (with_reducible refine And.intro ?_ ?_) | (with_reducible refine Need.mk ?_)); focus (first | exact True.intro | omega | (intro _; (with_reducible assumption)) | (simp; done) | (simp; omega)))
 | (with_reducible refine aJ ?_)
 | ((with_reducible show bL _ _ _ _ _ _); first
 | ((with_reducible refine aM ?_ ?_) <;> (intro hc; (try simp only [zB, zC, reduceCtorEq] at hc); ((try (have e0 : n = i := (by omega); subst e0)); (try (have e1 : n = u := (by omega); subst e1)); (try (clear mk1; clear hfk; cases hq : wJ n N t (N i).oc (N i).nu; all_goals (first | (have hfk := agG hq) | (have hfk := aeQ hq))))); (try (exfalso; omega)))))
 | ((with_reducible show aW _ _ _ _ _ _ _ _ _ _); first
 | (refine aF (k := 63) abT (aeS (N j) (hN j (by omega))) ?_ ?_)
 | ((refine dw (k := 62) Tryz.func62 rfl Ow (by rw [Tryz.ntmps62]; simp) ?_ ?_ (fun K hK => ?_)); (focus ((simp; omega))); (focus ((simp [jo]; done))); simp only [Tryz.ntmps62, List.map_cons, List.map_nil, List.nil_append, List.cons_append, List.append_nil, LV.tv, au, Nat.zero_add, Nat.reduceAdd])
 | ((refine dw (k := 111) Tryz.func111 rfl JJ (by rw [Tryz.ntmps111]; simp) ?_ ?_ (fun K hK => ?_)); (focus (exact True.intro)); (focus ((simp [jo]; done))); simp only [Tryz.ntmps111, List.map_cons, List.map_nil, List.nil_append, List.cons_append, List.append_nil, LV.tv, au, Nat.zero_add, Nat.reduceAdd]))
 | ((with_reducible show bM _ _ _ _ _ _ _ _ _ _); first
 | (refine aO (k := 51) zU (fun hg => Ct _) ?_ ?_)
 | ((refine qU (k := 62) ?_ ?_) <;> (intro hc; (try simp only [zB, zC, reduceCtorEq] at hc); (try (exfalso; contradiction)))))
 | ((with_reducible refine hR2 _ (j + 1) ?_); (try clear hR2 KR))
 | ((with_reducible refine hR5 _ (u + 1) ?_); (try clear hR5 KR))
 | ((with_reducible refine hR12 _ (i + 1) ?_); (try clear hR12 KR))
 | ((with_reducible refine Told.mk ?_); simp only [go_sem, reduceIte, reduceCtorEq, xA, xL, xD, xE, xM, xS, xB, bC, A8, bF, fA, aZ, maxLen, List.length_append, hfk, Af] <;> (first | (((try simp (disch := omega) only [aY, Int.natCast_add, Int.cast_ofNat_Int, and_true, true_and, and_self]); (repeat' (first | omega | rfl | (with_reducible refine And.intro ?_ ?_) | (exact all_succ (by assumption) (by assumption)))); done)) | (((try simp (disch := omega) only [aY, Int.natCast_add, Int.cast_ofNat_Int, and_true, true_and, and_self]); (repeat' (first | omega | (with_reducible refine And.intro ?_ ?_) | ((exact Or.inl (by rw [ahl (by assumption)]))) | ((exact Or.inl (by rw [ahJ (by assumption)]))))); done)) | (((try simp (disch := omega) only [aY, Int.natCast_add, Int.cast_ofNat_Int, and_true, true_and, and_self]); (repeat' (first | omega | (with_reducible refine And.intro ?_ ?_) | ((first | rw [ahL (aij (by assumption) (by assumption) (by assumption))] | rw [Ma (agX (by assumption))] | rw [Ma (af6 (by assumption))] | rw [Ma (agY (by assumption))])) | ((exact jQ rfl (ig _))) | ((simp only [List.length_append, List.length_cons, List.length_nil, Nat.zero_add]; done)))); done))))
 | ((fail_if_success (with_reducible show AW _ _ _ _)); simp (maxSteps := 2000000) only [go_sem, reduceIte, reduceCtorEq, xA, xL, xD, xE, xM, xS, xB, Tryz.f22, Tryz.f62, Tryz.f111, bC, A8, bF, fA, aZ, maxLen, List.length_append, hfk, Af])
 | ((with_reducible refine hK _ ?_); clear hK K)
 | (with_reducible apply_assumption -exfalso only [*]))
  all_goals (first | (have e := alO (n := n) (N := N) (t := t) (by assumption); rw [e.1, e.2]; (repeat' (first | exact rfl | (with_reducible refine And.intro ?_ ?_))); done) | (have e := alJ (n := n) (N := N) (t := t) (by assumption) (by assumption); rw [e.1, e.2]; (repeat' (first | exact rfl | (with_reducible refine And.intro ?_ ?_))); done) | (have e := alq (n := n) (N := N) (t := t) (by assumption) (by assumption) hai; rw [e.1, e.2]; (repeat' (first | exact rfl | (with_reducible refine And.intro ?_ ?_) | (intro i q hi hq; exact FH _ i q hi hq) | (exact fun c hc9 => (by have := ig _ c hc9; cases c <;> trivial)))); done))
end Go.Proofs.YtcfechepbamhkaaGreat
namespace Go.Sea
open Go.RowKit
def LV.mv (a b : Nat) : LV -> LV
  | .ptr k o => .ptr (if k = a then b else k) o
  | .mp k => .mp (if k = a then b else k)
  | c => c
def CV.mv (a b : Nat) : CV -> CV
  | .slc k off n E => .slc (if k = a then b else k) off n E
  | .ptr k o => .ptr (if k = a then b else k) o
  | .fn f x y => .fn f (x.map (LV.mv a b)) (y.map (LV.mv a b))
  | .mp k => .mp (if k = a then b else k)
  | .it k => .it (if k = a then b else k)
  | .ml l => .ml (l.map fun x => (x.1, x.2.1, x.2.2.1.map (LV.mv a b), x.2.2.2.map (LV.mv a b)))
  | .mt j c p q => .mt (if j = a then b else j) c p q
  | c => c
def TV.mv (a b : Nat) : TV -> TV
  | .one c => .one (c.mv a b)
  | .agg cs => .agg (cs.map (CV.mv a b))
def AV.mv (a b : Nat) : AV -> AV
  | .t x => .t (x.mv a b)
  | .tup xs => .tup (xs.map (TV.mv a b))
  | .mb c x => .mb c (x.mv a b)
  | .any => .any
def Ul (a b : Nat) (e : List (Nat × AV)) : List (Nat × AV) := e.map fun p => (p.1, p.2.mv a b)
def mvG (a b : Nat) (g : List (Nat × List (Nat × AV))) : List (Nat × List (Nat × AV)) := g.map fun p => (p.1, Ul a b p.2)
def Js (a b : Nat) (o : Option (List CV)) : Option (List CV) := o.map (List.map (CV.mv a b))
def mvH (a b : Nat) (h : List (Option (List CV))) : List (Option (List CV)) := hdel (h.map (Js a b)) a ++ [Js a b (hget h a)]
def AS.mv (a b : Nat) (s : AS) : AS := ⟨Ul a b s.env, mvH a b s.heap, s.N, mvG a b s.gh, s.lp⟩
theorem UZ (a b t : Nat) : ∀ env : List (Nat × AV), lk (Ul a b env) t = (lk env t).mv a b
  | [] => rfl
  | (k, v) :: r => by
    simp only [Ul, List.map_cons, lk]
    split
    · rfl
    · exact UZ a b t r
theorem ad2 (a b f : Nat) : ∀ g : List (Nat × List (Nat × AV)), gf (mvG a b g) f = Ul a b (gf g f)
  | [] => rfl
  | (k, v) :: r => by
    simp only [mvG, List.map_cons, gf]
    split
    · rfl
    · exact ad2 a b f r
theorem Ie : ∀ (h : List (Option (List CV))) (i : Nat), (hdel h i).length = h.length
  | [], i => by simp [hdel]
  | x :: h, 0 => by simp [hdel]
  | x :: h, i + 1 => by simp [hdel, Ie h i]
theorem Nl (a : Nat) (h : List (Option (List CV))) (k : Nat) : hget (mvH a h.length h) k = if k = h.length then Js a h.length (hget h a) else if k = a then none else Js a h.length (hget h k) := by
  unfold mvH
  have hl : (hdel (h.map (Js a h.length)) a).length = h.length := by rw [Ie, List.length_map]
  by_cases hk : k = h.length
  · rw [if_pos hk]
    subst hk
    unfold hget
    rw [List.getElem?_append_right (by omega), hl]
    simp
  · rw [if_neg hk]
    have e1 : hget (hdel (h.map (Js a h.length)) a ++ [Js a h.length (hget h a)]) k = hget (hdel (h.map (Js a h.length)) a) k := by
      unfold hget
      by_cases hlt : k < h.length
      · rw [List.getElem?_append_left (by omega)]
      · rw [List.getElem?_eq_none (by simp [hl]; omega), List.getElem?_eq_none (by omega)]
    rw [e1, qx]
    by_cases ha : k = a
    · rw [if_pos ha, if_pos ha]
    · rw [if_neg ha, if_neg ha]
      unfold hget Js
      rw [List.getElem?_map]
      cases h[k]? <;> rfl
section
variable {w0 : World} {Z0 : Fr} {J J' : Nat -> Option Nat} {Z : Nat -> Prop} {s : AS} {ac : Act} {w : World} {a b : Nat}
theorem jN.mv (hJ : ∀ k x, J k = some x -> J' (if k = a then b else k) = some x) {v : Value} {l : LV} (h : jN w J Z v l) : jN w J' Z v (l.mv a b) := by
  cases l with
  | iv c => exact h
  | ptr k o => obtain ⟨x, e, hx, ho⟩ := h; exact ⟨x, e, hJ k x hx, ho⟩
  | mp k => obtain ⟨x, e, hx⟩ := h; exact ⟨x, e, hJ k x hx⟩
theorem bK.mv (hJ : ∀ k x, J k = some x -> J' (if k = a then b else k) = some x) {v : Value} {c : CV} (h : bK w J Z v c) : bK w J' Z v (c.mv a b) := by
  cases c with
  | iv c => exact h
  | ip m c => exact h
  | slc k off n E =>
    rcases h with h | ⟨x, cap, c, e, hv, hx, r⟩
    · exact Or.inl h
    · exact Or.inr ⟨x, cap, c, e, hv, hJ k x hx, r⟩
  | ptr k o => obtain ⟨x, e, hx, ho⟩ := h; exact ⟨x, e, hJ k x hx, ho⟩
  | mp k => obtain ⟨x, e, hx⟩ := h; exact ⟨x, e, hJ k x hx⟩
  | it k => obtain ⟨x, e, hx⟩ := h; exact ⟨x, e, hJ k x hx⟩
  | mi => exact h.elim
  | m2 => exact h.elim
  | ml => exact h.elim
  | mt => exact h.elim
  | fn f x y =>
    obtain ⟨A, B, e, h1, h2⟩ := h
    exact ⟨A, B, e, aQ.dG.2 (h1.mono fun _ _ => jN.mv hJ), aQ.dG.2 (h2.mono fun _ _ => jN.mv hJ)⟩
  | any => exact h
theorem iX.mv (hJ : ∀ k x, J k = some x -> J' (if k = a then b else k) = some x) {c : Nat} {cs : List CV} (h : iX w J Z c cs) : iX w J' Z c (cs.map (CV.mv a b)) := by
  unfold iX at h
  split at h
  · obtain ⟨rfl, h⟩ := h
    exact ⟨rfl, h⟩
  · obtain ⟨rfl, h⟩ := h
    exact ⟨rfl, h⟩
  · obtain ⟨rfl, es, clock, h1, h2, h3⟩ := h
    exact ⟨rfl, es, clock, h1, h2, (aQ.dG (f := fun x : Int × Fn × List LV × List LV => (x.1, x.2.1, x.2.2.1.map (LV.mv a b), x.2.2.2.map (LV.mv a b)))).2 (h3.mono fun _ _ hr => ⟨hr.1, bK.mv hJ hr.2⟩)⟩
  · obtain ⟨rfl, m, seen, es, clock, h1, h2, h3⟩ := h
    exact ⟨rfl, m, seen, es, clock, h1, hJ _ _ h2, h3⟩
  · rcases h with ⟨c, e, h1, h2⟩ | ⟨⟨o, h1, h2⟩, h3⟩
    · refine iX.of h1 ?_
      rw [List.length_map]
      exact aQ.dG.2 (h2.mono fun _ _ => bK.mv hJ)
    · refine iX.dead h1 h2 fun c hc => ?_
      obtain ⟨c', hc', rfl⟩ := List.mem_map.1 hc
      rw [h3 c' hc']; rfl
theorem cu.mv (hJ : ∀ k x, J k = some x -> J' (if k = a then b else k) = some x) {v : Value} {c : TV} (h : cu w J Z v c) : cu w J' Z v (c.mv a b) := by
  cases c with
  | one c => exact bK.mv hJ h
  | agg cs => obtain ⟨A, e, h⟩ := h; exact ⟨A, e, aQ.dG.2 (h.mono fun _ _ => bK.mv hJ)⟩
theorem bq.mv (hJ : ∀ k x, J k = some x -> J' (if k = a then b else k) = some x) {v : Value} {c : AV} (h : bq w J Z v c) : bq w J' Z v (c.mv a b) := by
  cases c with
  | t x => exact cu.mv hJ h
  | tup xs => obtain ⟨A, e, h⟩ := h; exact ⟨A, e, aQ.dG.2 (h.mono fun _ _ => cu.mv hJ)⟩
  | mb c x => exact ⟨fun hc => cu.mv hJ (h.1 hc), h.2⟩
  | any => trivial
theorem Rel.mv (R : Rel w0 Z0 J Z s ac w) (ha : (hget s.heap a).isSome = true) : Rel w0 Z0 (fun k => if k = s.heap.length then J a else if k = a then none else J k) Z (s.mv a s.heap.length) ac w := by
  have hla : a < s.heap.length := by
    refine Nat.lt_of_not_le fun h => ?_
    rw [tN _ _ h] at ha
    cases ha
  have hJ : ∀ k x, J k = some x -> (fun k => if k = s.heap.length then J a else if k = a then none else J k) (if k = a then s.heap.length else k) = some x := fun k x hx => by
    by_cases h : k = a
    · subst h; simp [hx]
    · simp only [if_neg h]
      rw [if_neg]
      · exact hx
      · rintro rfl
        rw [R.hole _ (tN _ _ (Nat.le_refl _))] at hx
        cases hx
  have sub : ∀ k x, (if k = s.heap.length then J a else if k = a then none else J k) = some x -> ∃ q, J q = some x /\ ((k = s.heap.length /\ q = a) \/ (k ≠ s.heap.length /\ k ≠ a /\ q = k)) := fun k x h => by
    split at h
    · rename_i e; exact ⟨a, h, Or.inl ⟨e, rfl⟩⟩
    · rename_i e1
      split at h
      · cases h
      · rename_i e2; exact ⟨k, h, Or.inr ⟨e1, e2, rfl⟩⟩
  refine ⟨R.nodef, R.size, R.below, R.zfrom, R.zlt, fun k x h => ?_, fun k j x hk hj => ?_, fun k h => ?_, fun k cs h hne => ?_, fun t => ?_, fun f t => ?_, R.loops, R.lnd, R.ro⟩
  · obtain ⟨q, hq, _⟩ := sub k x h
    exact R.jlt q x hq
  · obtain ⟨q1, h1, e1⟩ := sub k x hk
    obtain ⟨q2, h2, e2⟩ := sub j x hj
    have := R.inj q1 q2 x h1 h2
    omega
  · simp only [AS.mv] at h
    rw [Nl] at h
    by_cases h1 : k = s.heap.length
    · rw [if_pos h1] at h
      cases hc : hget s.heap a with
      | none => rw [hc] at ha; cases ha
      | some cs => rw [hc] at h; simp [Js] at h
    · rw [if_neg h1] at h ⊢
      by_cases h2 : k = a
      · rw [if_pos h2]
      · rw [if_neg h2] at h ⊢
        refine R.hole k ?_
        cases hc : hget s.heap k with
        | none => rfl
        | some cs => rw [hc] at h; simp [Js] at h
  · simp only [AS.mv] at h
    rw [Nl] at h
    have one : ∀ q, Js a s.heap.length (hget s.heap q) = some cs -> ∃ b, J q = some b /\ iX w (fun k => if k = s.heap.length then J a else if k = a then none else J k) Z b cs := fun q hq => by
      cases hc : hget s.heap q with
      | none => rw [hc] at hq; simp [Js] at hq
      | some c0 =>
        rw [hc] at hq
        simp only [Js, Option.map_some, Option.some.injEq] at hq
        subst hq
        obtain ⟨b, g1, g2⟩ := R.blk q c0 hc (by rintro rfl; exact hne rfl)
        exact ⟨b, g1, g2.mv hJ⟩
    by_cases h1 : k = s.heap.length
    · rw [if_pos h1] at h
      obtain ⟨b, g1, g2⟩ := one a h
      exact ⟨b, by rw [if_pos h1]; exact g1, g2⟩
    · rw [if_neg h1] at h
      by_cases h2 : k = a
      · rw [if_pos h2] at h; cases h
      · rw [if_neg h2] at h
        obtain ⟨b, g1, g2⟩ := one k h
        exact ⟨b, by rw [if_neg h1, if_neg h2]; exact g1, g2⟩
  · show bq _ _ _ _ (lk (Ul a s.heap.length s.env) t)
    rw [UZ]; exact bq.mv hJ (R.slots t)
  · show bq _ _ _ _ (lk (gf (mvG a s.heap.length s.gh) f) t)
    rw [ad2, UZ]; exact bq.mv hJ (R.ghost f t)
end
def xC (F : Nat -> Nat -> IV) (n : Nat) : List (Option (List CV)) := (List.range n).map fun k => some (EY (F k) 64)
section
variable (F G : Nat -> Nat -> IV) (n k a b : Nat)
theorem Az : (xC F n).length = n := by simp [xC]
theorem Oz : xC F 0 = [] := rfl
theorem ET {F : Nat -> Nat -> IV} {n k : Nat} (h : k < n) : (xC F n)[k]? = some (some (EY (F k) 64)) := by simp [xC, h]
theorem Rw : xC F n ++ [some (EY (F n) 64)] = xC F (n + 1) := by simp [xC, List.range_succ]
theorem Gu {l : List (Option (List CV))} (hl : l.length = n) (h : ∀ j, j < n -> l[j]? = some (some (EY (F j) 64))) : l = xC F n := by
  refine List.ext_getElem? fun j => ?_
  by_cases hj : j < n
  · rw [h j hj, ET hj]
  · rw [List.getElem?_eq_none (by omega), List.getElem?_eq_none (by rw [Az]; omega)]
theorem Kz : List.map (fun o => Option.map (gJ a) o) (xC F n) = xC F n := by
  refine Gu _ _ (by simp [Az]) fun j hj => ?_
  rw [List.getElem?_map, ET hj]
  simp [gJ, V3]
theorem Y2 (f : Nat -> IV) : List.map (CV.mv a b) (EY f n) = EY f n := by
  refine (List.map_congr_left fun c hc => ?_).trans (List.map_id _)
  have := Oj f n c hc
  cases c <;> first | rfl | exact this.elim
theorem ZE : List.map (Js a b) (xC F n) = xC F n := by
  refine Gu _ _ (by simp [Az]) fun j hj => ?_
  rw [List.getElem?_map, ET hj]
  simp [Js, Y2]
end
def adn {ι : Type} (N : Nat) (lp : LP) (g : List (Nat × List (Nat × AV))) (C : ι -> List (Nat × AV)) (H : ι -> List (Option (List CV))) (I : ι -> Prop) (μ : ι -> Nat) (e : List (Nat × AV)) (U : List Nat) (i j : ι) (s' : AS) : Prop :=
  N = s'.N /\ lp = s'.lp /\ g = s'.gh /\ I j /\ μ j < μ i /\ Ra (H j) s'.env (C j ++ bD e U) /\ Gn (okB (H j)) s'.heap (H j)
def zA (H : List (Option (List CV))) (g : List (Nat × List (Nat × AV))) : Prop := ∀ p, p ∈ g -> ∀ q, q ∈ p.2 -> q.2.ok (okB H)
theorem LV.iQ {p q : Nat -> Prop} (h : ∀ i, p i -> q i) {c : LV} (hc : c.ok p) : c.ok q := by cases c <;> first | trivial | exact h _ hc
theorem CV.iQ {p q : Nat -> Prop} (h : ∀ i, p i -> q i) {c : CV} (hc : c.ok p) : c.ok q := by
  cases c <;> first | trivial | exact h _ hc | exact ⟨fun l hl => LV.iQ h (hc.1 l hl), fun l hl => LV.iQ h (hc.2 l hl)⟩ | exact fun x hx => ⟨fun l hl => LV.iQ h ((hc x hx).1 l hl), fun l hl => LV.iQ h ((hc x hx).2 l hl)⟩
theorem TV.iQ {p q : Nat -> Prop} (h : ∀ i, p i -> q i) {c : TV} (hc : c.ok p) : c.ok q := by
  cases c with
  | one c => exact CV.iQ h hc
  | agg cs => exact fun c hm => CV.iQ h (hc c hm)
theorem AV.iQ {p q : Nat -> Prop} (h : ∀ i, p i -> q i) {c : AV} (hc : c.ok p) : c.ok q := by
  cases c with
  | t x => exact TV.iQ h hc
  | tup xs => exact fun c hm => TV.iQ h (hc c hm)
  | mb b x => exact TV.iQ h hc
  | any => trivial
theorem zA.mono {H H' : List (Option (List CV))} {g : List (Nat × List (Nat × AV))} (h : zA H g) (hs : ∀ i, okB H i -> okB H' i) : zA H' g := fun p hp q hq => AV.iQ hs (h p hp q hq)
def Pn : List (Option (List CV)) -> List (Option (List CV)) -> Prop
  | [], _ => True
  | none :: h, [] => Pn h []
  | some _ :: _, [] => False
  | none :: h, _ :: h' => Pn h h'
  | some _ :: h, some _ :: h' => Pn h h'
  | some _ :: _, none :: _ => False
theorem ny : ∀ {h h' : List (Option (List CV))}, Pn h h' -> ∀ i, okB h i -> okB h' i
  | [], _, _, i, hi => by simp [okB, hget] at hi
  | none :: h, [], H, 0, hi => by simp [okB, hget] at hi
  | none :: h, [], H, i + 1, hi => by
    unfold okB at hi
    rw [dX] at hi
    have := ny (h := h) (h' := []) H i hi
    simp [okB, hget] at this
  | some _ :: _, [], H, _, _ => H.elim
  | none :: h, y :: h', H, 0, hi => by simp [okB, hget] at hi
  | none :: h, y :: h', H, i + 1, hi => by unfold okB at hi ⊢; rw [dX] at hi ⊢; exact ny (h := h) (h' := h') H i hi
  | some _ :: h, some _ :: h', H, 0, hi => by simp [okB, hget]
  | some _ :: h, some _ :: h', H, i + 1, hi => by unfold okB at hi ⊢; rw [dX] at hi ⊢; exact ny (h := h) (h' := h') H i hi
  | some _ :: _, none :: _, H, _, _ => H.elim
theorem CV.pK {p : Nat -> Prop} {i : Nat} (hi : ¬ p i) {c : CV} (hc : c.ok p) : c.has i = false := by
  cases c with
  | slc j off n E => exact beq_eq_false_iff_ne.2 fun e => hi (e ▸ hc)
  | ptr j o => exact beq_eq_false_iff_ne.2 fun e => hi (e ▸ hc)
  | mp j => exact beq_eq_false_iff_ne.2 fun e => hi (e ▸ hc)
  | it j => exact beq_eq_false_iff_ne.2 fun e => hi (e ▸ hc)
  | mt j c p q => exact beq_eq_false_iff_ne.2 fun e => hi (e ▸ hc)
  | ml l =>
    refine List.any_eq_false.2 fun x hx => ?_
    rw [Bool.not_eq_true]
    refine Bool.or_eq_false_iff.2 ⟨List.any_eq_false.2 fun l hl => ?_, List.any_eq_false.2 fun l hl => ?_⟩
    · have := (hc x hx).1 l hl
      cases l with
      | iv c => simp [LV.has]
      | ptr j o => simp only [LV.has, beq_iff_eq]; exact fun e => hi (e ▸ this)
      | mp j => simp only [LV.has, beq_iff_eq]; exact fun e => hi (e ▸ this)
    · have := (hc x hx).2 l hl
      cases l with
      | iv c => simp [LV.has]
      | ptr j o => simp only [LV.has, beq_iff_eq]; exact fun e => hi (e ▸ this)
      | mp j => simp only [LV.has, beq_iff_eq]; exact fun e => hi (e ▸ this)
  | fn f a b =>
    refine Bool.or_eq_false_iff.2 ⟨List.any_eq_false.2 fun l hl => ?_, List.any_eq_false.2 fun l hl => ?_⟩
    · have := hc.1 l hl
      cases l with
      | iv c => simp [LV.has]
      | ptr j o => simp only [LV.has, beq_iff_eq]; exact fun e => hi (e ▸ this)
      | mp j => simp only [LV.has, beq_iff_eq]; exact fun e => hi (e ▸ this)
    · have := hc.2 l hl
      cases l with
      | iv c => simp [LV.has]
      | ptr j o => simp only [LV.has, beq_iff_eq]; exact fun e => hi (e ▸ this)
      | mp j => simp only [LV.has, beq_iff_eq]; exact fun e => hi (e ▸ this)
  | _ => rfl
theorem TV.pK {p : Nat -> Prop} {i : Nat} (hi : ¬ p i) {c : TV} (hc : c.ok p) : c.has i = false := by
  cases c with
  | one c => exact CV.pK hi hc
  | agg cs => exact List.any_eq_false.2 fun c hm => by simp [CV.pK hi (hc c hm)]
theorem AV.pK {p : Nat -> Prop} {i : Nat} (hi : ¬ p i) {c : AV} (hc : c.ok p) : c.has i = false := by
  cases c with
  | t x => exact TV.pK hi hc
  | tup xs => exact List.any_eq_false.2 fun c hm => by simp [TV.pK hi (hc c hm)]
  | mb b x => exact TV.pK hi hc
  | any => rfl
theorem LV.nN {p : Nat -> Prop} {i b : Nat} (hi : ¬ p i) {c : LV} (hc : c.ok p) : c.mv i b = c := by
  cases c with
  | iv c => rfl
  | ptr k o => simp only [LV.mv]; rw [if_neg]; rintro rfl; exact hi hc
  | mp k => simp only [LV.mv]; rw [if_neg]; rintro rfl; exact hi hc
theorem CV.nN {p : Nat -> Prop} {i b : Nat} (hi : ¬ p i) {c : CV} (hc : c.ok p) : c.mv i b = c := by
  cases c with
  | slc k off n E => simp only [CV.mv]; rw [if_neg]; rintro rfl; exact hi hc
  | ptr k o => simp only [CV.mv]; rw [if_neg]; rintro rfl; exact hi hc
  | mp k => simp only [CV.mv]; rw [if_neg]; rintro rfl; exact hi hc
  | it k => simp only [CV.mv]; rw [if_neg]; rintro rfl; exact hi hc
  | mt k c p q => simp only [CV.mv]; rw [if_neg]; rintro rfl; exact hi hc
  | ml l =>
    simp only [CV.mv]
    congr 1
    refine (List.map_congr_left fun x hx => ?_).trans (List.map_id _)
    rw [(List.map_congr_left fun l hl => LV.nN hi ((hc x hx).1 l hl)).trans (List.map_id _), (List.map_congr_left fun l hl => LV.nN hi ((hc x hx).2 l hl)).trans (List.map_id _)]
    rfl
  | fn f x y =>
    simp only [CV.mv]
    rw [(List.map_congr_left fun l hl => LV.nN hi (hc.1 l hl)).trans (List.map_id _), (List.map_congr_left fun l hl => LV.nN hi (hc.2 l hl)).trans (List.map_id _)]
  | _ => rfl
theorem TV.nN {p : Nat -> Prop} {i b : Nat} (hi : ¬ p i) {c : TV} (hc : c.ok p) : c.mv i b = c := by
  cases c with
  | one c => simp only [TV.mv]; rw [CV.nN hi hc]
  | agg cs => simp only [TV.mv]; rw [(List.map_congr_left fun l hl => CV.nN hi (hc l hl)).trans (List.map_id _)]
theorem AV.nN {p : Nat -> Prop} {i b : Nat} (hi : ¬ p i) {c : AV} (hc : c.ok p) : c.mv i b = c := by
  cases c with
  | t x => simp only [AV.mv]; rw [TV.nN hi hc]
  | tup xs => simp only [AV.mv]; rw [(List.map_congr_left fun l hl => TV.nN hi (hc l hl)).trans (List.map_id _)]
  | mb b x => simp only [AV.mv]; rw [TV.nN hi hc]
  | any => rfl
theorem zA.cB {H : List (Option (List CV))} {g : List (Nat × List (Nat × AV))} (h : zA H g) {i : Nat} (hi : hget H i = none) : pU i g = g := by
  refine (List.map_congr_left fun p hp => ?_).trans (List.map_id _)
  have : lM i p.2 = p.2 := (List.map_congr_left fun q hq => by
    have hn : ¬ okB H i := by unfold okB; rw [hi]; simp
    simp only [AV.cB, AV.pK hn (h p hp q hq), cond_false]
    rfl).trans (List.map_id _)
  rw [this]; rfl
theorem zA.mv {H : List (Option (List CV))} {g : List (Nat × List (Nat × AV))} (h : zA H g) {i : Nat} (hi : hget H i = none) (b : Nat) : mvG i b g = g := by
  refine (List.map_congr_left fun p hp => ?_).trans (List.map_id _)
  have : Ul i b p.2 = p.2 := (List.map_congr_left fun q hq => by
    have hn : ¬ okB H i := by unfold okB; rw [hi]; simp
    rw [AV.nN hn (h p hp q hq)]
    rfl).trans (List.map_id _)
  rw [this]; rfl
theorem WC : ∀ (e : List (Nat × AV)) (t : Nat), lk e t = .any \/ ∃ p, p ∈ e /\ lk e t = p.2
  | [], _ => Or.inl rfl
  | (k, v) :: r, t => by
    simp only [lk]
    split
    · exact Or.inr ⟨(k, v), by simp, rfl⟩
    · rcases WC r t with h | ⟨p, hp, h⟩
      · exact Or.inl h
      · exact Or.inr ⟨p, by simp [hp], h⟩
theorem Wi : ∀ (g : List (Nat × List (Nat × AV))) (f : Nat), gf g f = [] \/ ∃ p, p ∈ g /\ gf g f = p.2
  | [], _ => Or.inl rfl
  | (k, v) :: r, t => by
    simp only [gf]
    split
    · exact Or.inr ⟨(k, v), by simp, rfl⟩
    · rcases Wi r t with h | ⟨p, hp, h⟩
      · exact Or.inl h
      · exact Or.inr ⟨p, by simp [hp], h⟩
theorem zA.wk {H : List (Option (List CV))} {g : List (Nat × List (Nat × AV))} (h : zA H g) (f t : Nat) : wkA (fun i => (hget H i).isSome = true) (gk g f t) (gk g f t) := by
  refine Or.inr (Or.inl ⟨rfl, ?_⟩)
  show (lk (gf g f) t).ok _
  rcases Wi g f with e | ⟨p, hp, e⟩
  · rw [e]; trivial
  · rw [e]
    rcases WC p.2 t with e' | ⟨q, hq, e'⟩
    · rw [e']; trivial
    · rw [e']; exact h p hp q hq
theorem Weak.ah9 {s : AS} {E : List (Nat × AV)} {H : List (Option (List CV))} (hg : zA H s.gh) (h1 : Ra H s.env E) (h2 : Gn (okB H) s.heap H) : Weak s ⟨E, H, s.N, s.gh, s.lp⟩ :=
  ⟨rfl, EK (Oe h1), fun f t => hg.wk f t, rfl, kF h2⟩
theorem qG {P : Program} {s : AS} {Q : Exit -> AS -> Prop} {c : Code} {ι : Type} (U : List Nat) (C : ι -> List (Nat × AV)) (H : ι -> List (Option (List CV))) (I : ι -> Prop) (μ : ι -> Nat) (i0 : ι)
    (hg : ∀ i, I i -> zA (H i) s.gh) (h1 : Told (Ra (H i0) s.env (C i0 ++ bD s.env U))) (h2 : Told (Gn (okB (H i0)) s.heap (H i0))) (hi : I i0)
    (round : ∀ i, I i -> ∀ K : AS -> Prop, (∀ s' j, Told (adn s.N s.lp s.gh C H I μ s.env U i j s') -> K s') -> AW P c ⟨C i ++ bD s.env U, H i, s.N, s.gh, s.lp⟩ (ru K Q)) : AW P (.loop c) s Q := by
  refine Mv (fun n s' => ∃ i, I i /\ n = μ i /\ s' = ⟨C i ++ bD s.env U, H i, s.N, s.gh, s.lp⟩) (μ i0) ⟨_, Weak.ah9 (hg i0 hi) h1.out h2.out, i0, hi, rfl, rfl⟩ ?_
  rintro n s' ⟨i, hI, rfl, rfl⟩
  refine (round i hI (fun s' => ∃ m s1, m < μ i /\ Weak s' s1 /\ ∃ i, I i /\ m = μ i /\ s1 = ⟨C i ++ bD s.env U, H i, s.N, s.gh, s.lp⟩) fun s' j h => ?_)
  obtain ⟨g1, g2, g3, g4, g5, g6, g7⟩ := h.out
  refine ⟨μ j, _, g5, ?_, j, g4, rfl, rfl⟩
  have := Weak.ah9 (s := s') (E := C j ++ bD s.env U) (H := H j) (g3 ▸ hg j g4) g6 g7
  rw [<- g1, <- g2, <- g3] at this
  exact this
def LV.here (H : List (Option (List CV))) : LV -> Bool
  | .ptr i _ | .mp i => (hget H i).isSome
  | _ => true
def CV.cl (H : List (Option (List CV))) : CV -> CV
  | .slc i off n E => if (hget H i).isSome = true then .slc i off n E else .any
  | .ptr i o => if (hget H i).isSome = true then .ptr i o else .any
  | .mp i => if (hget H i).isSome = true then .mp i else .any
  | .it i => if (hget H i).isSome = true then .it i else .any
  | .ml _ | .mt _ _ _ _ => .any
  | .fn f a b => if (a.all (LV.here H) && b.all (LV.here H)) = true then .fn f a b else .any
  | c => c
def TV.cl (H : List (Option (List CV))) : TV -> TV
  | .one c => .one (c.cl H)
  | .agg cs => .agg (cs.map (CV.cl H))
def AV.cl (H : List (Option (List CV))) : AV -> AV
  | .t x => .t (x.cl H)
  | .tup xs => .tup (xs.map (TV.cl H))
  | .mb b x => .mb b (x.cl H)
  | .any => .any
theorem LV.Nn {H : List (Option (List CV))} {l : LV} (h : l.here H = true) : l.ok (okB H) := by cases l <;> first | trivial | exact h
theorem CV.yD (H : List (Option (List CV))) (c : CV) : (c.cl H).ok (okB H) := by
  cases c with
  | slc i off n E => simp only [CV.cl]; split <;> first | assumption | trivial
  | ptr i o => simp only [CV.cl]; split <;> first | assumption | trivial
  | mp i => simp only [CV.cl]; split <;> first | assumption | trivial
  | it i => simp only [CV.cl]; split <;> first | assumption | trivial
  | fn f a b =>
    simp only [CV.cl]
    split
    · rename_i h
      rw [Bool.and_eq_true, List.all_eq_true, List.all_eq_true] at h
      exact ⟨fun l hl => LV.Nn (h.1 l hl), fun l hl => LV.Nn (h.2 l hl)⟩
    · trivial
  | _ => trivial
theorem TV.yD (H : List (Option (List CV))) (c : TV) : (c.cl H).ok (okB H) := by
  cases c with
  | one c => exact c.yD H
  | agg cs =>
    intro c hc
    obtain ⟨d, _, rfl⟩ := List.mem_map.1 hc
    exact d.yD H
theorem AV.yD (H : List (Option (List CV))) (c : AV) : (c.cl H).ok (okB H) := by
  cases c with
  | t x => exact x.yD H
  | tup xs =>
    intro c hc
    obtain ⟨d, _, rfl⟩ := List.mem_map.1 hc
    exact d.yD H
  | mb b x => exact x.yD H
  | any => trivial
def clE (H : List (Option (List CV))) (e : List (Nat × AV)) : List (Nat × AV) := e.map fun p => (p.1, p.2.cl H)
def clG (H : List (Option (List CV))) (g : List (Nat × List (Nat × AV))) : List (Nat × List (Nat × AV)) := g.map fun p => (p.1, clE H p.2)
theorem adL (H : List (Option (List CV))) (t : Nat) : ∀ e : List (Nat × AV), lk (clE H e) t = (lk e t).cl H
  | [] => rfl
  | (k, v) :: r => by
    simp only [clE, List.map_cons, lk]
    split
    · rfl
    · exact adL H t r
theorem adt (H : List (Option (List CV))) (f : Nat) : ∀ g : List (Nat × List (Nat × AV)), gf (clG H g) f = clE H (gf g f)
  | [] => rfl
  | (k, v) :: r => by
    simp only [clG, List.map_cons, gf]
    split
    · rfl
    · exact adt H f r
theorem zA.cl (H : List (Option (List CV))) (g : List (Nat × List (Nat × AV))) : zA H (clG H g) := fun p hp q hq => by
  obtain ⟨p', _, rfl⟩ := List.mem_map.1 hp
  obtain ⟨q', _, rfl⟩ := List.mem_map.1 hq
  exact q'.2.yD H
section
variable {H : List (Option (List CV))} {w w' : World} {J J' : Nat -> Option Nat} {Z Z' : Nat -> Prop}
theorem bK.cl {v : Value} {c : CV} (h : bK w J Z v c) : bK w J Z v (c.cl H) := by
  cases c with
  | slc i off n E => simp only [CV.cl]; split <;> first | exact h | exact bK.one h
  | ptr i o => simp only [CV.cl]; split <;> first | exact h | exact bK.one h
  | mp i => simp only [CV.cl]; split <;> first | exact h | exact bK.one h
  | it i => simp only [CV.cl]; split <;> first | exact h | exact bK.one h
  | ml => exact h.elim
  | mt => exact h.elim
  | fn f a b => simp only [CV.cl]; split <;> first | exact h | exact bK.one h
  | _ => exact h
theorem cu.cl {v : Value} {c : TV} (h : cu w J Z v c) : cu w J Z v (c.cl H) := by
  cases c with
  | one c => exact bK.cl h
  | agg cs => obtain ⟨A, e, h⟩ := h; exact ⟨A, e, aQ.dG.2 (h.mono fun _ _ => bK.cl)⟩
theorem bq.cl {v : Value} {c : AV} (h : bq w J Z v c) : bq w J Z v (c.cl H) := by
  cases c with
  | t x => exact cu.cl h
  | tup xs => obtain ⟨A, e, h⟩ := h; exact ⟨A, e, aQ.dG.2 (h.mono fun _ _ => cu.cl)⟩
  | mb b x => exact ⟨fun hb => cu.cl (h.1 hb), h.2⟩
  | any => trivial
theorem aQ.both {α β : Type} {R S T : α -> β -> Prop} (h : ∀ a b, R a b -> S a b -> T a b) : ∀ {l : List α} {m : List β}, aQ R l m -> aQ S l m -> aQ T l m
  | [], [], _, _ => trivial
  | _ :: _, _ :: _, ⟨h1, h2⟩, ⟨g1, g2⟩ => ⟨h _ _ h1 g1, aQ.both h h2 g2⟩
theorem F7 (hole : ∀ i, hget H i = none -> J i = none) : ∀ {l : List Value} {m : List LV}, aQ (jN w J Z) l m -> m.all (LV.here H) = true
  | [], [], _ => rfl
  | v :: l, c :: m, ⟨h1, h2⟩ => by
    rw [List.all_cons, F7 hole h2, Bool.and_true]
    cases c with
    | iv c => rfl
    | ptr i o =>
      obtain ⟨b, _, hj, _⟩ := h1
      cases hh : hget H i with
      | none => rw [hole i hh] at hj; cases hj
      | some cs => simp [LV.here, hh]
    | mp i =>
      obtain ⟨b, _, hj⟩ := h1
      cases hh : hget H i with
      | none => rw [hole i hh] at hj; cases hj
      | some cs => simp [LV.here, hh]
theorem bK.FL (hole : ∀ i, hget H i = none -> J i = none) {v : Value} {c : CV} (h : bK w J Z v c) (h' : bK w' J' Z' v (c.cl H)) : bK w' J' Z' v c := by
  cases c with
  | slc i off n E =>
    simp only [CV.cl] at h'
    split at h'
    · exact h'
    · rename_i hn
      rcases h with h | ⟨b, cap, c, e, hv, hj, r⟩
      · exact Or.inl h
      · rw [hole i (by simpa using hn)] at hj; cases hj
  | ptr i o =>
    simp only [CV.cl] at h'
    split at h'
    · exact h'
    · rename_i hn
      obtain ⟨b, hv, hj, _⟩ := h
      rw [hole i (by simpa using hn)] at hj; cases hj
  | mp i =>
    simp only [CV.cl] at h'
    split at h'
    · exact h'
    · rename_i hn
      obtain ⟨b, hv, hj⟩ := h
      rw [hole i (by simpa using hn)] at hj; cases hj
  | it i =>
    simp only [CV.cl] at h'
    split at h'
    · exact h'
    · rename_i hn
      obtain ⟨b, hv, hj⟩ := h
      rw [hole i (by simpa using hn)] at hj; cases hj
  | ml => exact h.elim
  | mt => exact h.elim
  | fn f a b =>
    simp only [CV.cl] at h'
    split at h'
    · exact h'
    · rename_i hn
      obtain ⟨A, B, e, h1, h2⟩ := h
      exact absurd (by rw [F7 hole h1, F7 hole h2]; rfl) hn
  | _ => exact h'
theorem cu.FL (hole : ∀ i, hget H i = none -> J i = none) {v : Value} {c : TV} (h : cu w J Z v c) (h' : cu w' J' Z' v (c.cl H)) : cu w' J' Z' v c := by
  cases c with
  | one c => exact bK.FL hole h h'
  | agg cs =>
    obtain ⟨A, e, h⟩ := h
    obtain ⟨A', e', h'⟩ := h'
    subst e
    cases e'
    exact ⟨A, rfl, aQ.both (fun _ _ => bK.FL hole) h (aQ.dG.1 h')⟩
theorem bq.FL (hole : ∀ i, hget H i = none -> J i = none) {v : Value} {c : AV} (h : bq w J Z v c) (h' : bq w' J' Z' v (c.cl H)) : bq w' J' Z' v c := by
  cases c with
  | t x => exact cu.FL hole h h'
  | tup xs =>
    obtain ⟨A, e, h⟩ := h
    obtain ⟨A', e', h'⟩ := h'
    subst e
    cases e'
    exact ⟨A, rfl, aQ.both (fun _ _ => cu.FL hole) h (aQ.dG.1 h')⟩
  | mb b x => exact ⟨fun hb => cu.FL hole (h.1 hb) (h'.1 hb), h'.2⟩
  | any => trivial
end
def al3 (g : List (Nat × List (Nat × AV))) (ls : List LS) (fr : Nat) : Prop := ∀ f, fr <= f -> jo ls f /\ mH g f = g
theorem IE : ∀ g : List (Nat × List (Nat × AV)), ∃ n, ∀ f, n <= f -> mH g f = g
  | [] => ⟨0, fun _ _ => rfl⟩
  | (k, e) :: r => by
    obtain ⟨n, h⟩ := IE r
    refine ⟨n + k + 1, fun f hf => ?_⟩
    simp only [mH]
    rw [if_neg (by omega), h f (by omega)]
theorem Cm {P : Program} {k : FuncId} {fn : Func} {c : Code} {args : List TV} {H H' : List (Option (List CV))} {r : AV} (hf : P.funcs[k]? = some fn) (hb : fn.body = some c) (hl : args.length <= fn.ntmps)
    (h : ∀ g ls fr, zA H g -> al3 g ls fr -> AW P c ⟨au args 0, H, fn.ntmps, g, ⟨ls, fr, none⟩⟩ (aj5 P fn r H' g ⟨ls, fr, none⟩)) : gW P k args H r H' := by
  intro w0 Z0 J Z s a w vs R hH ha
  subst hH
  refine callsIn_wide.1 (callsIn_of_wp_marks (F := Fence.wide) (n := 0) hf hb trivial ?_)
  have hlen := ha.length
  simp only [Array.length_toList] at hlen
  obtain ⟨n1, f1⟩ := Jd s.gh
  obtain ⟨n2, f2⟩ := Ia s.lp.ls
  obtain ⟨fid, hfid⟩ : ∃ fid, fid = n1 + n2 := ⟨_, rfl⟩
  obtain ⟨n3, f3⟩ := IE (clG s.heap ((fid, s.env) :: s.gh))
  have e1 : gf s.gh fid = [] := f1 _ (by omega)
  have e2 := qN (f2 fid (by omega))
  obtain ⟨M, m1, m2, m3⟩ := R.nodef
  let Z1 : Fr := ⟨Z0.z, fun f t => if f = fid then a.tmps.getD t undef else Z0.g f t, none, M ++ Z0.pin⟩
  have hg0 : ∀ f t, gk (clG s.heap ((fid, s.env) :: s.gh)) f t = (if f = fid then s.get t else gk s.gh f t).cl s.heap := fun f t => by
    show lk (gf (clG s.heap ((fid, s.env) :: s.gh)) f) t = _
    rw [adt, adL]
    congr 1
    exact og _ _ _ _ _
  have R1 : Rel w0 Z1 J Z ⟨au args 0, s.heap, fn.ntmps, clG s.heap ((fid, s.env) :: s.gh), ⟨s.lp.ls, n2 + n3, none⟩⟩ { tmps := vs ++ Array.replicate (fn.ntmps - vs.size) undef, defers := [] } w := by
    refine ⟨⟨[], rfl, by simpa [Z1] using m2, fun b hb => m3 b (by simpa [Z1] using hb)⟩, ?_, R.below, R.zfrom, R.zlt, R.jlt, R.inj, R.hole, R.blk, fun t => ?_, fun f t => ?_, fun y hy => ?_, R.lnd, rfl⟩
    · simp; omega
    · simp only [AS.get, nA, Nat.zero_le, if_true, Nat.sub_zero]
      cases hx : args[t]? with
      | none => simp; trivial
      | some x =>
        obtain ⟨u, hu, hr⟩ := ha.get hx
        have : (vs ++ Array.replicate (fn.ntmps - vs.size) undef).getD t undef = u := by
          rw [Array.getElem?_toList] at hu
          have hlt : t < vs.size := (Array.getElem?_eq_some_iff.1 hu).1
          simp only [Array.getD_eq_getD_getElem?, Array.getElem?_append_left hlt, hu, Option.getD_some]
        rw [this]
        exact hr
    · rw [hg0]
      refine bq.cl ?_
      by_cases hf : f = fid
      · simp only [Z1, if_pos hf]; exact R.slots t
      · simp only [Z1, if_neg hf]; exact R.ghost f t
    · obtain ⟨fn', tmps', dd', k0, k1, k2, k3⟩ := R.loops y hy
      refine ⟨fn', tmps', dd', k0, k1, k2, fun t => ?_⟩
      simp only [Z1, if_neg (e2 y hy)]; exact k3 t
  refine wpIn_mono (h _ _ _ (zA.cl _ _) (fun f hf => ⟨f2 f (by omega), f3 f (by omega)⟩) w0 Z1 _ w 0 ⟨_, _, R1⟩) fun e a' w' ⟨s', ⟨J', Z', R'⟩, he, hh, hgg, hlp, q⟩ => ?_
  have fin : LeavesInM Fence.wide 0 P fn a'.tmps (fun e w' => ∃ v J' Z', e = .returned v /\ Rel w0 Z0 J' Z' { s with heap := H' } a w' /\ bq w' J' Z' v r) a'.defers .returning w' := by
    obtain ⟨M', m1', _⟩ := R'.nodef
    refine R'.leaves M' m1' fun a2 w2 R2 h2 h3 => ?_
    split at q
    · rename_i nd l h1
      obtain ⟨hn, rfl⟩ := q
      obtain ⟨vs', hvs, hr⟩ := ku R2 h1 hn
      rw [h2] at hvs
      have hres : (results fn a'.tmps).run P w2 = .ok (if h : vs'.toArray.size = 1 then vs'.toArray[0] else .tuple vs'.toArray) w2 := by
        rw [sP, <- Array.toArray_toList (xs := fn.results), List.mapM_toArray]
        simp only [Sem.run_bind, Sem.run_map, hvs, Result.andThen_ok, Sem.run_pure]
      refine ⟨_, hres, _, J', Z', rfl, ?_, Ig hr⟩
      subst hh
      refine ⟨⟨M, m1, m2, fun b hb => ?_⟩, R.size, R2.below, R2.zfrom, R2.zlt, R2.jlt, R2.inj, R2.hole, R2.blk, fun t => ?_, fun f t => ?_, fun y hy => ?_, R.lnd, R.ro⟩
      · obtain ⟨M4, _, _, n3⟩ := R2.nodef
        exact n3 b (List.mem_append_right _ hb)
      · have := R2.ghost fid t
        rw [hgg, hg0] at this
        simp only [Z1, if_true] at this
        exact bq.FL R.hole (R.slots t) this
      · have := R2.ghost f t
        rw [hgg, hg0] at this
        by_cases hf : f = fid
        · subst hf
          show bq _ _ _ _ (lk (gf s.gh f) t)
          rw [e1]; trivial
        · simp only [Z1, if_neg hf] at this
          exact bq.FL R.hole (R.ghost f t) this
      · obtain ⟨fn', tmps', dd', k0, k1, k2, k3⟩ := R2.loops y (by rw [hlp]; exact hy)
        refine ⟨fn', tmps', dd', k0, k1, k2, fun t => ?_⟩
        have := k3 t
        simpa only [Z1, if_neg (e2 y hy)] using this
    · exact q.elim
  cases e <;> simp at he <;> exact fin
theorem zA.cons {H : List (Option (List CV))} {g : List (Nat × List (Nat × AV))} {f : Nat} {e : List (Nat × AV)} (he : ∀ q, q ∈ e -> q.2.ok (okB H)) (h : zA H g) : zA H ((f, e) :: g) := fun p hp => by
  rcases List.mem_cons.1 hp with rfl | hp
  · exact he
  · exact h p hp
theorem zA.nil (H : List (Option (List CV))) : zA H [] := fun p hp => by cases hp
attribute [go_sem] adn AS.mv Ul mvG mvH Js AV.mv TV.mv CV.mv LV.mv ZE Kz Rw Oz
end Go.Sea
set_option maxRecDepth 100000
set_option maxHeartbeats 4000000
namespace Go.Proofs.YtcfechepbamhkaaGreat
open Go.RowKit Go.Sea
open Nat renaming reduceAdd -> xA, reduceLT -> xL, reduceLeDiff -> xD, reduceEqDiff -> xE, reduceMul -> xM, reduceSub -> xS, reduceBEq -> xB
theorem HV : aK Tryz.prog 131 = true := by kernel_rfl
theorem FK : aK Tryz.prog 16 = true := by kernel_rfl
theorem tY : aK Tryz.prog 46 = true := by kernel_rfl
theorem qC : aK Tryz.prog 70 = true := by kernel_rfl
theorem zK : aK Tryz.prog 91 = true := by kernel_rfl
theorem uX : aK Tryz.prog 92 = true := by kernel_rfl
attribute [go_sem] HV FK tY qC uX
theorem JQ {L : List bE} {i : Nat} (hi : i < L.length) : List.take 13 (List.drop (i * 13) (fP L)) = c13 (L.getD i bH) := by
  refine List.ext_getElem? fun o => ?_
  rw [List.getElem?_take, List.getElem?_drop]
  by_cases ho : o < 13
  · rw [if_pos ho]
    have h := uO L i o hi ho
    have hl : i * 13 + o < (fP L).length := by rw [eD]; omega
    have hc : o < (c13 (L.getD i bH)).length := ho
    rw [List.getD, List.getD, List.getElem?_eq_getElem hl, List.getElem?_eq_getElem hc] at h
    rw [List.getElem?_eq_getElem hl, List.getElem?_eq_getElem hc]
    exact congrArg some h
  · rw [if_neg ho, List.getElem?_eq_none (by show 13 <= o; omega)]
theorem Jh (a b : List bE) : fP (a ++ b) = fP a ++ fP b := by simp [fP]
theorem JB {L : List bE} {i : Nat} (hi : i < L.length) (X : bE) : List.take (i * 13) (fP L) ++ c13 X ++ List.drop (i * 13 + 13) (fP L) = fP (L.set i X) := by
  have e : L = L.take i ++ L.getD i bH :: L.drop (i + 1) := by
    rw [List.getD, List.getElem?_eq_getElem hi, Option.getD_some, <- List.drop_eq_getElem_cons hi, List.take_append_drop]
  have hl : (fP (L.take i)).length = i * 13 := by rw [eD, List.length_take]; omega
  have e2 : fP L = fP (L.take i) ++ (c13 (L.getD i bH) ++ fP (L.drop (i + 1))) := by
    conv => lhs; rw [e]
    rw [Jh]; rfl
  have e3 : L.set i X = L.take i ++ X :: L.drop (i + 1) := List.set_eq_take_append_cons_drop.trans (by rw [if_pos hi])
  rw [e3, Jh]
  have h1 : List.take (i * 13) (fP L) = fP (L.take i) := by rw [e2, <- hl, List.take_left]
  have h2 : List.drop (i * 13 + 13) (fP L) = fP (L.drop (i + 1)) := by
    rw [e2, <- List.drop_drop, <- hl, List.drop_left]
    exact List.drop_left (l₁ := c13 (L.getD i bH))
  rw [h1, h2, List.append_assoc]; rfl
theorem Vw {s : bE} {N : ah} (h : mU N s.ch = true /\ iD s.q s.dn N.nu = false) : tX s N = true := by unfold tX; rw [h.1, h.2]; rfl
theorem akL {s : bE} {N : ah} (h : mU N s.ch = false \/ iD s.q s.dn N.nu = true) : (tX s N && decide (uZ s N = 0)) = false := by
  unfold tX; rcases h with h | h <;> rw [h] <;> simp
theorem Gg (q : Nat) (a : Nat -> Int) (x : Int) (hq : q <= 9223372036854775807) : aA Tryz.prog 92 [.one (.lst 1 q (bC a)), .one (.g (.int .i64 x))] (.t (.one (.g (.bool (iD q a x))))) := by
  refine ak Tryz.func92 rfl (by rw [Tryz.ntmps92]; simp) ?_
  simp only [Tryz.ntmps92, zM, PT.tv, au, Nat.zero_add, Nat.reduceAdd]
  repeat' (first
 | ((with_reducible show AW _ _ _ _); first
 | (with_reducible first | refine aS (fun K hK => ?_) | refine aI ?_ | refine aX ?_ | refine aT ?_ | refine aC ?_ | refine aB ?_)
 | (first
 | (with_reducible first | refine aP 0 [0,1] ?_ | refine aP (ops := #[⟨some 5, _, _, _, _, _⟩, _, _, _, _]) 1 [0,1] ?_ | refine aP (ops := #[⟨some 6, _, _, _, _, _⟩, _, _]) 1 [0,1] ?_ | refine aP 2 [0,1,7,8] ?_ | refine aP 3 [0,1,7,8] ?_ | refine aP 4 [0,1,5,7,8] ?_ | refine aP 5 [5] ?_ | refine aP 6 [0,1,7,8] ?_ | refine aP 7 [] ?_))
 | ((with_reducible show AW _ (Code.loop _) _ _); first
 | ((with_reducible refine aL (c := (Code.seq (Code.region 2 _ _) _)) (ι := Nat) [0,1,7] (fun i => [(8, iA .i64 (i : Int))]) (fun i => []) (fun i => i <= q /\ (∀ j, j < i -> a j ≠ x)) (fun i => q - i) 0 ?lg2 ?l12 ?l22 ?li2 ?lr2); (case' lg2 => rintro i _); (case' li2 => try (exact ⟨Nat.zero_le _, fun i hi => absurd hi (Nat.not_lt_zero _)⟩)); (case' lr2 => rintro i ⟨hi, hai⟩ KR hR2; simp only [bD, dD, hset, lk, if_true, if_false, xE, reduceIte, zN]))))
 | (((with_reducible refine And.intro ?_ ?_)); focus (omega))
 | (with_reducible refine aJ ?_)
 | ((with_reducible show bL _ _ _ _ _ _); first
 | ((with_reducible refine aM ?_ ?_) <;> (intro hc; (try simp only [zB, zC, reduceCtorEq] at hc); (try (exfalso; contradiction)))))
 | ((with_reducible refine hR2 _ (i + 1) ?_); (try clear hR2 KR))
 | ((with_reducible refine Told.mk ?_); simp only [go_sem, reduceIte, reduceCtorEq, xA, xL, xD, xE, xM, xS, xB, bC] <;> ((((try simp (disch := omega) only [aY, Int.natCast_add, Int.cast_ofNat_Int, and_true, true_and, and_self]); (repeat' (first | omega | (with_reducible refine And.intro ?_ ?_) | ((exact all_succ (by assumption) (by omega))))); done))))
 | ((fail_if_success (with_reducible show AW _ _ _ _)); simp (maxSteps := 2000000) only [go_sem, reduceIte, reduceCtorEq, xA, xL, xD, xE, xM, xS, xB, Tryz.f92, Tryz.f131, bC])
 | ((with_reducible show aW _ _ _ _ _ _ _ _ _ _); first
 | ((refine dw (k := 131) Tryz.func131 rfl HV (by rw [Tryz.ntmps131]; simp) ?_ ?_ (fun K hK => ?_)); (focus (exact True.intro)); (focus ((simp [jo]; done))); simp only [Tryz.ntmps131, List.map_cons, List.map_nil, List.nil_append, List.cons_append, List.append_nil, LV.tv, au, Nat.zero_add, Nat.reduceAdd]))
 | ((with_reducible refine hK _ ?_); clear hK K)
 | (with_reducible apply_assumption -exfalso only [*]))
  all_goals first
    | (have e : iD q a x = true := decide_eq_true ⟨i, by omega, by omega⟩; rw [e]; exact decide_eq_true (by omega))
    | (have e : iD q a x = false := decide_eq_false (fun ⟨j, h1, h2⟩ => hai j (by omega) h2); rw [e]; rfl)
theorem ahq (f : aj) (hf : f.Ok) (L : List bE) (i : Nat) (hL : L.length = f.k) (hi : i < f.k) (hk : f.k <= 1000) (hS : (L.getD i bH).Ok) (hw : dI (L.getD i bH) f.n f.N < f.n) : gW Tryz.prog 88 [.one (.ptr 0 0), .one (.ptr 3 0)] ([some [.slc 2 0 f.k 13, .iv (.lst 7 f.n (fB f.N))], some [.iv (.g (.slice none 0 0)), .iv (.g (.slice none 0 0))], some (fP (L)), some [.iv (.g (.int .i64 (i : Int)))]]) (.t (.one (.iv (.g (.bool true))))) ([some [.slc 2 0 f.k 13, .iv (.lst 7 f.n (fB f.N))], some [.iv (.g (.slice none 0 0)), .iv (.g (.slice none 0 0))], some (fP (L.set i (mh (L.getD i bH) (f.N (dI (L.getD i bH) f.n f.N))))), some [.iv (.g (.int .i64 (i : Int)))], some [.iv (.g (.bool true))], some [.iv (.g (.int .i64 (L.getD i bH).ch)), .iv (.g (.int .i64 (L.getD i bH).sc)), .iv (.g (.int .i64 (L.getD i bH).ed)), .iv (.g (.int .i64 (L.getD i bH).m.A)), .iv (.g (.int .i64 (L.getD i bH).m.B)), .iv (.g (.int .i64 (L.getD i bH).m.C)), .iv (.g (.int .i64 (L.getD i bH).m.D)), .iv (.g (.int .i64 (L.getD i bH).m.E)), .iv (.g (.int .i64 (L.getD i bH).m.F)), .iv (.g (.int .i64 (L.getD i bH).m.R)), .iv (.g (.int .i64 (L.getD i bH).cap)), .iv (.lst 1 (L.getD i bH).q (bC (L.getD i bH).dn)), .iv (.lst 9 (L.getD i bH).n (dL (L.getD i bH).f))], some [.iv (.lst 7 f.n (fB f.N))], some [.iv (.g (.int .i64 (f.N (dI (L.getD i bH) f.n f.N)).oc)), .iv (.g (.int .i64 (f.N (dI (L.getD i bH) f.n f.N)).nu)), .iv (.g (.int .i64 (f.N (dI (L.getD i bH) f.n f.N)).kd)), .iv (.g (.int .i64 (f.N (dI (L.getD i bH) f.n f.N)).fr)), .iv (.g (.int .i64 (f.N (dI (L.getD i bH) f.n f.N)).un)), .iv (.g (.int .i64 (f.N (dI (L.getD i bH) f.n f.N)).ca)), .iv (.lst 3 (f.N (dI (L.getD i bH) f.n f.N)).n (eO (f.N (dI (L.getD i bH) f.n f.N)).p))], some [.iv (.g (.int .i64 (f.N (dI (L.getD i bH) f.n f.N)).oc)), .iv (.g (.int .i64 (f.N (dI (L.getD i bH) f.n f.N)).nu)), .iv (.g (.int .i64 (f.N (dI (L.getD i bH) f.n f.N)).kd)), .iv (.g (.int .i64 (f.N (dI (L.getD i bH) f.n f.N)).fr)), .iv (.g (.int .i64 (f.N (dI (L.getD i bH) f.n f.N)).un)), .iv (.g (.int .i64 (f.N (dI (L.getD i bH) f.n f.N)).ca)), .iv (.lst 3 (f.N (dI (L.getD i bH) f.n f.N)).n (eO (f.N (dI (L.getD i bH) f.n f.N)).p))], none, none, none, none, none, none, none, none, none, none, some [.iv (.g (.int .i64 (mh (L.getD i bH) (f.N (dI (L.getD i bH) f.n f.N))).ch)), .iv (.g (.int .i64 (mh (L.getD i bH) (f.N (dI (L.getD i bH) f.n f.N))).sc)), .iv (.g (.int .i64 (mh (L.getD i bH) (f.N (dI (L.getD i bH) f.n f.N))).ed)), .iv (.g (.int .i64 (mh (L.getD i bH) (f.N (dI (L.getD i bH) f.n f.N))).m.A)), .iv (.g (.int .i64 (mh (L.getD i bH) (f.N (dI (L.getD i bH) f.n f.N))).m.B)), .iv (.g (.int .i64 (mh (L.getD i bH) (f.N (dI (L.getD i bH) f.n f.N))).m.C)), .iv (.g (.int .i64 (mh (L.getD i bH) (f.N (dI (L.getD i bH) f.n f.N))).m.D)), .iv (.g (.int .i64 (mh (L.getD i bH) (f.N (dI (L.getD i bH) f.n f.N))).m.E)), .iv (.g (.int .i64 (mh (L.getD i bH) (f.N (dI (L.getD i bH) f.n f.N))).m.F)), .iv (.g (.int .i64 (mh (L.getD i bH) (f.N (dI (L.getD i bH) f.n f.N))).m.R)), .iv (.g (.int .i64 (mh (L.getD i bH) (f.N (dI (L.getD i bH) f.n f.N))).cap)), .iv (.lst 1 (mh (L.getD i bH) (f.N (dI (L.getD i bH) f.n f.N))).q (bC (mh (L.getD i bH) (f.N (dI (L.getD i bH) f.n f.N))).dn)), .iv (.lst 9 (mh (L.getD i bH) (f.N (dI (L.getD i bH) f.n f.N))).n (dL (mh (L.getD i bH) (f.N (dI (L.getD i bH) f.n f.N))).f))]]) := by
  have hn := hf.n
  have hsub := JQ (L := L) (i := i) (by omega)
  have hupd2 := JB (L := L) (i := i) (by omega)
  simp only [c13] at hupd2
  refine Cm Tryz.func88 rfl (by rw [Tryz.ntmps88]; simp) fun g ls fr hG hFr => ?_
  obtain ⟨f0, d0⟩ := hFr fr (Nat.le_refl _)
  obtain ⟨f1, d1⟩ := hFr (fr + 1) (by omega)
  obtain ⟨f2, d2⟩ := hFr (fr + 2) (by omega)
  simp only [Tryz.ntmps88, au, Nat.zero_add, Nat.reduceAdd]
  repeat' (first
 | ((refine oW ?_ ?_) <;> (intro hc; (try rw [hc]); (try simp only [zB, zC, reduceCtorEq] at hc); (try (exfalso; contradiction))))
 | ((with_reducible show AW _ _ _ _); first
 | (with_reducible first | refine aS (fun K hK => ?_) | refine aI ?_ | refine aX ?_ | refine aT ?_ | refine aC ?_ | refine aB ?_)
 | ((refine eu (k := 91) rfl Tryz.func91 rfl zK (by rw [Tryz.ntmps91]; simp) ?_ ?_ (fun l hlne A B hA hB => ?_)); (focus (simp (maxSteps := 2000000) only [go_sem, reduceIte, reduceCtorEq, xA, xL, xD, xE, xM, xS, xB, Tryz.f88, Tryz.f91, Tryz.f46, bT, bX, bQ, bW, bP, bS, bY, bR, bU, bV, bg, bB, bn, bC, hsub, hupd2, c13, eD, gI, hL, f0, d0, f1, d1, f2, d2, Nat.add_eq_left, Nat.left_eq_add]; try exact True.intro)); (focus (simp (maxSteps := 2000000) only [go_sem, reduceIte, reduceCtorEq, xA, xL, xD, xE, xM, xS, xB, Tryz.f88, Tryz.f91, Tryz.f46, bT, bX, bQ, bW, bP, bS, bY, bR, bU, bV, bg, bB, bn, bC, hsub, hupd2, c13, eD, gI, hL, f0, d0, f1, d1, f2, d2, Nat.add_eq_left, Nat.left_eq_add]; try exact True.intro)); simp only [Tryz.ntmps91, List.map_cons, List.map_nil, LV.tv, au, yV, Nat.zero_add, Nat.reduceAdd]; clear hlne)
 | (with_reducible refine tZ (by assumption) ?_)
 | (first
 | (with_reducible first | refine aP (ops := #[⟨some 2, _, _, _, _, _⟩]) 0 [0,1,14] ?_ | refine aP (ops := #[⟨some 6, _, _, _, _, _⟩, _, _]) 0 [0,1,2] ?_ | refine aP (ops := #[⟨some 2, _, _, _, _, _⟩, _, _]) 0 [0,1] ?_ | refine aP (ops := #[⟨some 9, _, _, _, _, _⟩]) 1 [0,2,6,7,8] ?_ | refine aP (ops := #[⟨some 5, _, _, _, _, _⟩, _]) 1 [2,3] ?_)
 | ((with_reducible refine aR (c := Code.region 1 _ true) [0,1,2,14] ?_); (with_reducible refine lU 7 ?_ ?_ ?_ ?_ ?_); (focus kernel_rfl); (focus kernel_rfl); (focus kernel_rfl); (focus kernel_rfl))
 | (with_reducible first | refine aP (ops := #[⟨some 3, _, _, _, _, _⟩, _]) 2 [0,1,2,14] ?_ | refine aP (ops := #[⟨some 10, _, _, _, _, _⟩, _, _, _]) 2 [0,2,6,7,8] ?_ | refine aP 3 [0,2,5,6,7,8] ?_)
 | ((with_reducible refine aR (c := Code.region 3 _ true) [0,1,2,3,14] ?_); (with_reducible refine aD ?_ ?_ ?_ ?_); (focus kernel_rfl); (focus kernel_rfl); (focus kernel_rfl))
 | (with_reducible first | refine aP (ops := #[⟨some 25, _, _, _, _, _⟩, _]) 4 [0,1,2,4,5,14] ?_ | refine aP (ops := #[⟨some 30, _, _, _, _, _⟩, _]) 4 [0,2,6,7,8] ?_ | refine aP 5 [0,1,2,4] ?_ | refine aP 6 [2] ?_ | refine aP 7 [2] ?_))
 | ((with_reducible show AW _ (Code.loop _) _ _); first
 | ((with_reducible refine qG (c := (Code.seq (Code.region 1 _ _) _)) (ι := Nat) [0,2,6,7] (fun v => [(8, iA .i64 (v : Int))]) (fun v => [some [.slc 2 0 f.k 13, .iv (.lst 7 f.n (fB f.N))], some [.iv (.g (.slice none 0 0)), .iv (.g (.slice none 0 0))], some (fP (L)), some [.iv (.g (.int .i64 (i : Int)))], some [.iv (.g (.bool false))], some [.iv (.g (.int .i64 (L.getD i bH).ch)), .iv (.g (.int .i64 (L.getD i bH).sc)), .iv (.g (.int .i64 (L.getD i bH).ed)), .iv (.g (.int .i64 (L.getD i bH).m.A)), .iv (.g (.int .i64 (L.getD i bH).m.B)), .iv (.g (.int .i64 (L.getD i bH).m.C)), .iv (.g (.int .i64 (L.getD i bH).m.D)), .iv (.g (.int .i64 (L.getD i bH).m.E)), .iv (.g (.int .i64 (L.getD i bH).m.F)), .iv (.g (.int .i64 (L.getD i bH).m.R)), .iv (.g (.int .i64 (L.getD i bH).cap)), .iv (.lst 1 (L.getD i bH).q (bC (L.getD i bH).dn)), .iv (.lst 9 (L.getD i bH).n (dL (L.getD i bH).f))], some [.iv (.lst 7 f.n (fB f.N))]]) (fun v => v <= f.n /\ (∀ t, t < v -> (tX (L.getD i bH) (f.N t) && decide (uZ (L.getD i bH) (f.N t) = 0)) = false)) (fun v => f.n - v) 0 ?lg1 ?l11 ?l21 ?li1 ?lr1); (case' lg1 => rintro v _; exact zA.cons (by simp only [List.mem_cons, forall_eq_or_imp, List.not_mem_nil, false_or, or_false, forall_eq, false_implies, implies_true, and_true, AV.ok, TV.ok, CV.ok, LV.ok, okB, hget, Option.isSome_some]; (repeat' (first | exact True.intro | (with_reducible refine And.intro ?_ ?_) | rfl))) (hG.mono (ny (by simp only [Pn])))); (case' li1 => try (exact ⟨Nat.zero_le _, fun i hi => absurd hi (Nat.not_lt_zero _)⟩)); (case' lr1 => rintro v ⟨hv, hav⟩ KR hR1; simp only [bD, dD, hset, lk, if_true, if_false, xE, reduceIte, zN, bT, bX, bQ, bW, bP, bS, bY, bR, bU, bV, bg, bB, bn, hsub, hupd2, c13, eD, gI, hL, f0, d0, f1, d1, f2, d2, Nat.add_eq_left, Nat.left_eq_add]))))
 | ((first | (with_reducible refine And.intro ?_ ?_) | (with_reducible refine Need.mk ?_)); focus (first | exact True.intro | omega | (intro _; (with_reducible assumption))))
 | (with_reducible refine WA rfl rfl rfl ?_)
 | ((with_reducible show bL _ _ _ _ _ _); first
 | ((with_reducible refine aM ?_ ?_) <;> (intro hc; (try simp only [zB, zC, reduceCtorEq] at hc); ((try (have e := Uj (s := (L.getD i bH)) (n := f.n) (N := f.N) (i := v) (by omega) (Vw (by assumption)) (by assumption) hav; subst e))); (try (exfalso; contradiction)))))
 | ((with_reducible show ∀ _ : AS -> Prop, _ -> _); intro K hK)
 | ((with_reducible refine And.intro ?_ ?_); focus (((with_reducible show zk _ _ _ _ = true); kernel_rfl)))
 | ((with_reducible refine And.intro ?_ ?_); focus ((with_reducible show gV _ _ _ = true); kernel_rfl))
 | ((with_reducible show aW _ _ _ _ _ _ _ _ _ _); first
 | (refine aF (k := 70) qC (BJ (f.N v) (L.getD i bH).ch (hf.nn v (by omega))) ?_ ?_)
 | ((refine dw (k := 46) Tryz.func46 rfl tY (by rw [Tryz.ntmps46]; simp) ?_ ?_ (fun K hK => ?_)); (focus (exact True.intro)); (focus (assumption)); simp only [Tryz.ntmps46, List.map_cons, List.map_nil, List.nil_append, List.cons_append, List.append_nil, LV.tv, au, Nat.zero_add, Nat.reduceAdd]))
 | ((with_reducible show bM _ _ _ _ _ _ _ _ _ _); first
 | (refine aO (k := 92) uX (fun hg => Gg (L.getD i bH).q (L.getD i bH).dn (f.N v).nu hS.q) ?_ ?_))
 | ((with_reducible show eT _ _ _ _ _ _ _ _ _ _ _ _ _); first
 | (refine dh (k := 16) FK (UQ (L.getD i bH) (f.N v) hS (hf.nn v (by omega))) ?_ ?_))
 | ((with_reducible refine hR1 _ (v + 1) ?_); (try clear hR1 KR))
 | ((with_reducible refine Told.mk ?_); simp only [go_sem, reduceIte, reduceCtorEq, xA, xL, xD, xE, xM, xS, xB, bT, bX, bQ, bW, bP, bS, bY, bR, bU, bV, bg, bB, bn, bC, hsub, hupd2, c13, eD, gI, hL, f0, d0, f1, d1, f2, d2, Nat.add_eq_left, Nat.left_eq_add] <;> ((((try simp (disch := omega) only [aY, Int.natCast_add, Int.cast_ofNat_Int, and_true, true_and, and_self]); (repeat' (first | omega | (with_reducible refine And.intro ?_ ?_) | ((exact all_succ (by assumption) (akL (by assumption)))) | ((exact all_succ (by assumption) (ai4 (by assumption)))) | ((exact jQ rfl (mI _))))); done))))
 | ((fail_if_success (with_reducible show AW _ _ _ _)); simp (maxSteps := 2000000) only [go_sem, reduceIte, reduceCtorEq, xA, xL, xD, xE, xM, xS, xB, Tryz.f88, Tryz.f91, Tryz.f46, bT, bX, bQ, bW, bP, bS, bY, bR, bU, bV, bg, bB, bn, bC, hsub, hupd2, c13, eD, gI, hL, f0, d0, f1, d1, f2, d2, Nat.add_eq_left, Nat.left_eq_add])
 | ((with_reducible show aW _ _ _ _ _ _ (.yld _) _ _ _); (refine kU (by simp only [Eh, if_true]; exact rfl) ?_ (by simp) ?_ ?_ (fun K hK => ?_)); (focus (exact True.intro)); (focus (simp [mE])); (focus (exact ⟨Nat.ne_of_lt (Nat.lt_succ_self _), by assumption⟩)); simp only [iT, gf, if_true, Nat.reduceAdd])
 | ((with_reducible refine hK _ ?_); clear hK K)
 | (with_reducible apply_assumption -exfalso only [*]))
  all_goals (exfalso; (have e := VZ (s := (L.getD i bH)) (n := f.n) (N := f.N) (fun j hj => hav j (by omega)); omega))
theorem ahw (f : aj) (hf : f.Ok) (L : List bE) (i : Nat) (hL : L.length = f.k) (hi : i < f.k) (hk : f.k <= 1000) (hS : (L.getD i bH).Ok) (hw : dI (L.getD i bH) f.n f.N = f.n) : gW Tryz.prog 88 [.one (.ptr 0 0), .one (.ptr 3 0)] ([some [.slc 2 0 f.k 13, .iv (.lst 7 f.n (fB f.N))], some [.iv (.g (.slice none 0 0)), .iv (.g (.slice none 0 0))], some (fP (L)), some [.iv (.g (.int .i64 (i : Int)))]]) (.t (.one (.iv (.g (.bool false))))) ([some [.slc 2 0 f.k 13, .iv (.lst 7 f.n (fB f.N))], some [.iv (.g (.slice none 0 0)), .iv (.g (.slice none 0 0))], some (fP (L)), some [.iv (.g (.int .i64 (i : Int)))], some [.iv (.g (.bool false))], some [.iv (.g (.int .i64 (L.getD i bH).ch)), .iv (.g (.int .i64 (L.getD i bH).sc)), .iv (.g (.int .i64 (L.getD i bH).ed)), .iv (.g (.int .i64 (L.getD i bH).m.A)), .iv (.g (.int .i64 (L.getD i bH).m.B)), .iv (.g (.int .i64 (L.getD i bH).m.C)), .iv (.g (.int .i64 (L.getD i bH).m.D)), .iv (.g (.int .i64 (L.getD i bH).m.E)), .iv (.g (.int .i64 (L.getD i bH).m.F)), .iv (.g (.int .i64 (L.getD i bH).m.R)), .iv (.g (.int .i64 (L.getD i bH).cap)), .iv (.lst 1 (L.getD i bH).q (bC (L.getD i bH).dn)), .iv (.lst 9 (L.getD i bH).n (dL (L.getD i bH).f))], some [.iv (.lst 7 f.n (fB f.N))]]) := by
  have hn := hf.n
  have hsub := JQ (L := L) (i := i) (by omega)
  have hupd2 := JB (L := L) (i := i) (by omega)
  simp only [c13] at hupd2
  refine Cm Tryz.func88 rfl (by rw [Tryz.ntmps88]; simp) fun g ls fr hG hFr => ?_
  obtain ⟨f0, d0⟩ := hFr fr (Nat.le_refl _)
  obtain ⟨f1, d1⟩ := hFr (fr + 1) (by omega)
  obtain ⟨f2, d2⟩ := hFr (fr + 2) (by omega)
  simp only [Tryz.ntmps88, au, Nat.zero_add, Nat.reduceAdd]
  repeat' (first
 | ((refine oW ?_ ?_) <;> (intro hc; (try rw [hc]); (try simp only [zB, zC, reduceCtorEq] at hc); (try (exfalso; contradiction))))
 | ((with_reducible show AW _ _ _ _); first
 | (with_reducible first | refine aS (fun K hK => ?_) | refine aI ?_ | refine aX ?_ | refine aT ?_ | refine aC ?_ | refine aB ?_)
 | ((refine eu (k := 91) rfl Tryz.func91 rfl zK (by rw [Tryz.ntmps91]; simp) ?_ ?_ (fun l hlne A B hA hB => ?_)); (focus (simp (maxSteps := 2000000) only [go_sem, reduceIte, reduceCtorEq, xA, xL, xD, xE, xM, xS, xB, Tryz.f88, Tryz.f91, Tryz.f46, bT, bX, bQ, bW, bP, bS, bY, bR, bU, bV, bg, bB, bn, bC, hsub, hupd2, c13, eD, gI, hL, f0, d0, f1, d1, f2, d2, Nat.add_eq_left, Nat.left_eq_add]; try exact True.intro)); (focus (simp (maxSteps := 2000000) only [go_sem, reduceIte, reduceCtorEq, xA, xL, xD, xE, xM, xS, xB, Tryz.f88, Tryz.f91, Tryz.f46, bT, bX, bQ, bW, bP, bS, bY, bR, bU, bV, bg, bB, bn, bC, hsub, hupd2, c13, eD, gI, hL, f0, d0, f1, d1, f2, d2, Nat.add_eq_left, Nat.left_eq_add]; try exact True.intro)); simp only [Tryz.ntmps91, List.map_cons, List.map_nil, LV.tv, au, yV, Nat.zero_add, Nat.reduceAdd]; clear hlne)
 | (with_reducible refine tZ (by assumption) ?_)
 | (first
 | (with_reducible first | refine aP (ops := #[⟨some 2, _, _, _, _, _⟩]) 0 [0,1,14] ?_ | refine aP (ops := #[⟨some 6, _, _, _, _, _⟩, _, _]) 0 [0,1,2] ?_ | refine aP (ops := #[⟨some 2, _, _, _, _, _⟩, _, _]) 0 [0,1] ?_ | refine aP (ops := #[⟨some 9, _, _, _, _, _⟩]) 1 [0,2,6,7,8] ?_ | refine aP (ops := #[⟨some 5, _, _, _, _, _⟩, _]) 1 [2,3] ?_)
 | ((with_reducible refine aR (c := Code.region 1 _ true) [0,1,2,14] ?_); (with_reducible refine lU 7 ?_ ?_ ?_ ?_ ?_); (focus kernel_rfl); (focus kernel_rfl); (focus kernel_rfl); (focus kernel_rfl))
 | (with_reducible first | refine aP (ops := #[⟨some 3, _, _, _, _, _⟩, _]) 2 [0,1,2,14] ?_ | refine aP (ops := #[⟨some 10, _, _, _, _, _⟩, _, _, _]) 2 [0,2,6,7,8] ?_ | refine aP 3 [0,2,5,6,7,8] ?_)
 | ((with_reducible refine aR (c := Code.region 3 _ true) [0,1,2,3,14] ?_); (with_reducible refine aD ?_ ?_ ?_ ?_); (focus kernel_rfl); (focus kernel_rfl); (focus kernel_rfl))
 | (with_reducible first | refine aP (ops := #[⟨some 25, _, _, _, _, _⟩, _]) 4 [0,1,2,4,5,14] ?_ | refine aP (ops := #[⟨some 30, _, _, _, _, _⟩, _]) 4 [0,2,6,7,8] ?_ | refine aP 7 [2] ?_))
 | ((with_reducible show AW _ (Code.loop _) _ _); first
 | ((with_reducible refine qG (c := (Code.seq (Code.region 1 _ _) _)) (ι := Nat) [0,2,6,7] (fun v => [(8, iA .i64 (v : Int))]) (fun v => [some [.slc 2 0 f.k 13, .iv (.lst 7 f.n (fB f.N))], some [.iv (.g (.slice none 0 0)), .iv (.g (.slice none 0 0))], some (fP (L)), some [.iv (.g (.int .i64 (i : Int)))], some [.iv (.g (.bool false))], some [.iv (.g (.int .i64 (L.getD i bH).ch)), .iv (.g (.int .i64 (L.getD i bH).sc)), .iv (.g (.int .i64 (L.getD i bH).ed)), .iv (.g (.int .i64 (L.getD i bH).m.A)), .iv (.g (.int .i64 (L.getD i bH).m.B)), .iv (.g (.int .i64 (L.getD i bH).m.C)), .iv (.g (.int .i64 (L.getD i bH).m.D)), .iv (.g (.int .i64 (L.getD i bH).m.E)), .iv (.g (.int .i64 (L.getD i bH).m.F)), .iv (.g (.int .i64 (L.getD i bH).m.R)), .iv (.g (.int .i64 (L.getD i bH).cap)), .iv (.lst 1 (L.getD i bH).q (bC (L.getD i bH).dn)), .iv (.lst 9 (L.getD i bH).n (dL (L.getD i bH).f))], some [.iv (.lst 7 f.n (fB f.N))]]) (fun v => v <= f.n /\ (∀ t, t < v -> (tX (L.getD i bH) (f.N t) && decide (uZ (L.getD i bH) (f.N t) = 0)) = false)) (fun v => f.n - v) 0 ?lg1 ?l11 ?l21 ?li1 ?lr1); (case' lg1 => rintro v _; exact zA.cons (by simp only [List.mem_cons, forall_eq_or_imp, List.not_mem_nil, false_or, or_false, forall_eq, false_implies, implies_true, and_true, AV.ok, TV.ok, CV.ok, LV.ok, okB, hget, Option.isSome_some]; (repeat' (first | exact True.intro | (with_reducible refine And.intro ?_ ?_) | rfl))) (hG.mono (ny (by simp only [Pn])))); (case' li1 => try (exact ⟨Nat.zero_le _, fun i hi => absurd hi (Nat.not_lt_zero _)⟩)); (case' lr1 => rintro v ⟨hv, hav⟩ KR hR1; simp only [bD, dD, hset, lk, if_true, if_false, xE, reduceIte, zN, bT, bX, bQ, bW, bP, bS, bY, bR, bU, bV, bg, bB, bn, hsub, hupd2, c13, eD, gI, hL, f0, d0, f1, d1, f2, d2, Nat.add_eq_left, Nat.left_eq_add]))))
 | ((first | (with_reducible refine And.intro ?_ ?_) | (with_reducible refine Need.mk ?_)); focus (first | exact True.intro | omega | (intro _; (with_reducible assumption))))
 | (with_reducible refine WA rfl rfl rfl ?_)
 | ((with_reducible show bL _ _ _ _ _ _); first
 | ((with_reducible refine aM ?_ ?_) <;> (intro hc; (try simp only [zB, zC, reduceCtorEq] at hc); ((try (have e := Uj (s := (L.getD i bH)) (n := f.n) (N := f.N) (i := v) (by omega) (Vw (by assumption)) (by assumption) hav; subst e))); (try (exfalso; omega)))))
 | ((with_reducible show ∀ _ : AS -> Prop, _ -> _); intro K hK)
 | ((with_reducible refine And.intro ?_ ?_); focus (((with_reducible show zk _ _ _ _ = true); kernel_rfl)))
 | ((with_reducible refine And.intro ?_ ?_); focus ((with_reducible show gV _ _ _ = true); kernel_rfl))
 | ((with_reducible show aW _ _ _ _ _ _ _ _ _ _); first
 | (refine aF (k := 70) qC (BJ (f.N v) (L.getD i bH).ch (hf.nn v (by omega))) ?_ ?_)
 | ((refine dw (k := 46) Tryz.func46 rfl tY (by rw [Tryz.ntmps46]; simp) ?_ ?_ (fun K hK => ?_)); (focus (exact True.intro)); (focus (assumption)); simp only [Tryz.ntmps46, List.map_cons, List.map_nil, List.nil_append, List.cons_append, List.append_nil, LV.tv, au, Nat.zero_add, Nat.reduceAdd]))
 | ((with_reducible show bM _ _ _ _ _ _ _ _ _ _); first
 | (refine aO (k := 92) uX (fun hg => Gg (L.getD i bH).q (L.getD i bH).dn (f.N v).nu hS.q) ?_ ?_))
 | ((with_reducible show eT _ _ _ _ _ _ _ _ _ _ _ _ _); first
 | (refine dh (k := 16) FK (UQ (L.getD i bH) (f.N v) hS (hf.nn v (by omega))) ?_ ?_))
 | ((with_reducible refine hR1 _ (v + 1) ?_); (try clear hR1 KR))
 | ((with_reducible refine Told.mk ?_); simp only [go_sem, reduceIte, reduceCtorEq, xA, xL, xD, xE, xM, xS, xB, bT, bX, bQ, bW, bP, bS, bY, bR, bU, bV, bg, bB, bn, bC, hsub, hupd2, c13, eD, gI, hL, f0, d0, f1, d1, f2, d2, Nat.add_eq_left, Nat.left_eq_add] <;> ((((try simp (disch := omega) only [aY, Int.natCast_add, Int.cast_ofNat_Int, and_true, true_and, and_self]); (repeat' (first | omega | (with_reducible refine And.intro ?_ ?_) | ((exact all_succ (by assumption) (akL (by assumption)))) | ((exact all_succ (by assumption) (ai4 (by assumption)))) | ((exact jQ rfl (mI _))))); done))))
 | ((fail_if_success (with_reducible show AW _ _ _ _)); simp (maxSteps := 2000000) only [go_sem, reduceIte, reduceCtorEq, xA, xL, xD, xE, xM, xS, xB, Tryz.f88, Tryz.f91, Tryz.f46, bT, bX, bQ, bW, bP, bS, bY, bR, bU, bV, bg, bB, bn, bC, hsub, hupd2, c13, eD, gI, hL, f0, d0, f1, d1, f2, d2, Nat.add_eq_left, Nat.left_eq_add])
 | ((with_reducible show aW _ _ _ _ _ _ (.yld _) _ _ _); (refine kU (by simp only [Eh, if_true]; exact rfl) ?_ (by simp) ?_ ?_ (fun K hK => ?_)); (focus (exact True.intro)); (focus (simp [mE])); (focus (exact ⟨Nat.ne_of_lt (Nat.lt_succ_self _), by assumption⟩)); simp only [iT, gf, if_true, Nat.reduceAdd])
 | ((with_reducible refine hK _ ?_); clear hK K)
 | (with_reducible apply_assumption -exfalso only [*]))
  all_goals (exfalso; (have e := VZ (s := (L.getD i bH)) (n := f.n) (N := f.N) (fun j hj => hav j (by omega)); omega))
end Go.Proofs.YtcfechepbamhkaaGreat
namespace Go.Proofs.YtcfechepbamhkaaGreat
open Go.RowKit Go.Sea Go.Lib
theorem Xp : Tryz.prog.underlying 22 = some (.slice 39) := by kernel_rfl
theorem ai5 : (Tryz.prog.info? 39).map (fun i => (i.size, i.bytes, i.zero.map (·.cells.size))) = some (13, 136, some 13) := by kernel_rfl
set_option maxHeartbeats 4000000 in
set_option maxRecDepth 100000 in
set_option maxHeartbeats 2000000 in
theorem Kv (cap : Nat) (w : World) : Calls Tryz.prog 80 #[.slice none 0 cap] w fun e w' => e = .returned (.slice none 0 0) /\ w' = w := by
  have q : (binOp .eql 22 (.slice none 0 cap) (.slice none 0 0)).run Tryz.prog w = .ok (.bool true) w := run_eql_slice_nil w 22 39 none 0 cap Xp
  go_enter Tryz.func80, Tryz.ntmps80
  go_wp2
  go_ret
  exact ⟨rfl, rfl⟩
set_option maxHeartbeats 4000000 in
set_option maxRecDepth 100000 in
theorem yK (p : Addr) (n cap : Nat) (w w' : World) (u : Value) (h : ∀ ty, (Builtin.append_ #[22,22] ty #[.slice (some ⟨w.heap.size, 0, none⟩) 0 0, .slice (some p) n cap]).run Tryz.prog (w.alloc (.cells #[] 39)) = .ok u w') : Calls Tryz.prog 80 #[.slice (some p) n cap] w fun e w'' => e = .returned u /\ w'' = w' := by
  have q : (binOp .eql 22 (.slice (some p) n cap) (.slice none 0 0)).run Tryz.prog w = .ok (.bool false) w := run_eql_slice_nil w 22 39 (some p) n cap Xp
  go_enter Tryz.func80, Tryz.ntmps80
  go_wp2_with (at_builtin; refine Lib.wpList_append_run _ rfl _ _ _ _ rfl _ _ rfl rfl _ _ (h _) ?_)
  all_goals (go_ret; exact ⟨rfl, rfl⟩)
set_option maxHeartbeats 2000000 in
theorem Xu (n : Nat) (f : Nat -> Nat -> IV) (hn : n <= 1000) : lQ Tryz.prog 80 [.one (.iv (.lst 13 n f))] (dZ f 13 n 0) (fun i => .t (.one (.slc i 0 n 13))) := by
  intro H i hH w0 Z0 J Z s a w vs R hs hv
  subst hs
  obtain ⟨vs⟩ := vs
  match vs, hv with
  | [v], ⟨hv, _⟩ =>
    have hv : Rd w Z v (.lst 13 n f) := hv
    have hlen : (dZ f 13 n 0).length = n * 13 := fT f 13 n 0
    have empty : ∀ (p : Addr) (cap : Nat), n = 0 -> v = .slice (some p) 0 cap -> Calls Tryz.prog 80 #[v] w fun e w' => ∃ v J' Z', e = .returned v /\ Rel w0 Z0 J' Z' { s with heap := hset s.heap i (dZ f 13 n 0) } a w' /\ bq w' J' Z' v (.t (.one (.slc i 0 n 13))) := fun p cap h0 ev => by
      subst h0; subst ev
      obtain ⟨ii, h33⟩ : ∃ ii, Tryz.prog.info? 39 = some ii := by
        have := ai5
        cases h : Tryz.prog.info? 39 with
        | none => rw [h] at this; cases this
        | some i => exact ⟨i, rfl⟩
      refine (yK p 0 cap w _ _ fun ty => gG Xp h33 _ _ 0 0 cap (Nat.le_refl _)).mono fun e w' ⟨he, hw⟩ => ?_
      subst hw
      have R1 := R.new (nid := i) (cs := []) (c := #[]) (e := 39) (H := hset s.heap i []) hH (aG _ _ _) (fun q hq => aH _ _ _ _ hq) (by simp [aQ])
      exact ⟨_, _, _, he, R1, Or.inr ⟨w.heap.size, 0, #[], 39, rfl, by simp [fM], Nat.zero_le _, Nat.zero_le _, heap_alloc_new w _, by simp⟩⟩
    have hv0 := hv
    cases hv with
    | nil p cap =>
      cases p with
      | none =>
        refine (Kv cap w).mono fun e w' ⟨he, hw⟩ => ?_
        subst hw
        exact ⟨_, J, Z, he, R.qj (nid := i) hH (by rw [aG]; rfl) (fun q hq => aH _ _ _ _ hq), Or.inl ⟨rfl, rfl⟩⟩
      | some p => exact empty p cap rfl rfl
    | lst b off _ cap _ _ X hz hc hm h1 h2 =>
      by_cases h0 : n = 0
      · exact empty ⟨b, off, none⟩ cap h0 (by rw [h0])
      · obtain ⟨hR1, G⟩ := R.call (mJ w (.cells #[] 39))
        have hv1 : cu (w.alloc (.cells #[] 39)) J (fun b => Z b \/ (w.heap.size <= b /\ b < (w.alloc (.cells #[] 39)).heap.size)) (.slice (some ⟨b, off, none⟩) n cap) (.one (.iv (.lst 13 n f))) := bK.grow G (CV.bZ (.iv (.lst 13 n f))) hv0
        obtain ⟨ii, z, t1, t2, t3, t4, t5, t6, t7⟩ := gH (P := Tryz.prog) (t := 22) (e := 39) (n := 13) (b := 136) (by kernel_rfl)
        rcases jR hR1 (size := 13) (m := n) (nd := True) (x := .one (.iv (.lst 13 n f))) (ns := dZ f 13 n 0) (by simp [wF]) trivial hv1 with ⟨h, _⟩ | ⟨hpos, b2, off2, cap2, news, e2, n1, n2, n3, n4⟩
        · exact absurd h h0
        · cases e2
          have hrun := fun ty => run_append_grow (P := Tryz.prog) (w.alloc (.cells #[] 39)) 22 ty 39 ii z t1 t2 t3 ⟨w.heap.size, 0, none⟩ 0 0 [] (by simp) (fun j v h => by simp at h) ⟨b, off, none⟩ n cap news (by rw [n1, t5]) n2 (by omega) (by omega) (by
            rw [t6]; exact growslice_fits (by omega) (by omega))
          simp only [Nat.zero_add] at hrun
          have hsz := grownCap_ge (w.alloc (.cells #[] 39)) n 0 39
          have hmx := grownCap_le_maxLen (w.alloc (.cells #[] 39)) n 0 39 (by unfold maxLen; omega)
          generalize grownCap (w.alloc (.cells #[] 39)) n 0 39 = G at hrun hsz hmx
          have hC : G * 13 <= (([] : List Value).toArray ++ news.toArray ++ Builtin.zeroCells z.cells (G - n)).size := by
            simp only [Array.size_append, size_zeroCells, t4, List.size_toArray, n1, List.length_nil]
            omega
          have hD : aQ (bK (w.alloc (.cells #[] 39)) J (fun b => Z b \/ (w.heap.size <= b /\ b < (w.alloc (.cells #[] 39)).heap.size))) ((([] : List Value).toArray ++ news.toArray ++ Builtin.zeroCells z.cells (G - n)).toList.take (dZ f 13 n 0).length) (dZ f 13 n 0) := by
            rw [Array.toList_append, Array.toList_append, List.nil_append, List.take_append_of_le_length (by simp; omega), List.take_of_length_le (by simp; omega)]
            exact n4
          generalize ([] : List Value).toArray ++ news.toArray ++ Builtin.zeroCells z.cells (G - n) = C at hrun hC hD
          have cl := yK ⟨b, off, none⟩ n cap w _ _ hrun
          have R2 := (hR1.drew).new (nid := i) (cs := dZ f 13 n 0) (c := C) (e := 39) (H := hset s.heap i (dZ f 13 n 0)) hH (aG _ _ _) (fun q hq => aH _ _ _ _ hq) (lD hD)
          have hA := heap_alloc_new (w.alloc (.cells #[] 39)).drew (.cells C 39)
          generalize hw1 : w.alloc (.cells #[] 39) = w1 at cl R2 hA
          refine cl.mono fun e w' ⟨he, hw⟩ => ?_
          subst hw
          exact ⟨_, _, _, he, R2, Or.inr ⟨_, _, _, 39, rfl, by simp [fM], hsz, hmx, hA, by rw [Nat.zero_add]; exact hC⟩⟩
end Go.Proofs.YtcfechepbamhkaaGreat
