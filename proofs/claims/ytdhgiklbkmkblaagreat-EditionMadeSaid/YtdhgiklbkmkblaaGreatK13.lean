/- Part 13 of 16: contracts of functions and plain laws for the root text. No condition. -/
import Derived.Test.YtdhgiklbkmkblaaGreatK01
import Derived.Test.YtdhgiklbkmkblaaGreatK02
import Derived.Test.YtdhgiklbkmkblaaGreatK03
import Derived.Test.YtdhgiklbkmkblaaGreatK04
import Derived.Test.YtdhgiklbkmkblaaGreatK05
import Derived.Test.YtdhgiklbkmkblaaGreatK06
import Derived.Test.YtdhgiklbkmkblaaGreatK07
import Derived.Test.YtdhgiklbkmkblaaGreatK08
import Derived.Test.YtdhgiklbkmkblaaGreatK09
import Derived.Test.YtdhgiklbkmkblaaGreatK10
import Derived.Test.YtdhgiklbkmkblaaGreatK11
import Derived.Test.YtdhgiklbkmkblaaGreatK12
set_option linter.unusedVariables false
set_option linter.unusedSimpArgs false
set_option maxRecDepth 100000
set_option maxHeartbeats 4000000
namespace Go.Proofs.YtdhgiklbkmkblaaGreat
open Go.RowKit Go.Sea
open Nat renaming reduceAdd → xA, reduceLT → xL, reduceLeDiff → xD, reduceEqDiff → xE, reduceMul → xM, reduceSub → xS, reduceBEq → xB
theorem fnok_13 : fnOk Tryz.prog 13 = true := by kernel_rfl
theorem fnok_36 : fnOk Tryz.prog 36 = true := by kernel_rfl
theorem fnok_58 : fnOk Tryz.prog 58 = true := by kernel_rfl
attribute [go_sem] fnok_13 fnok_36 fnok_58
theorem dnI_lo {q : Nat} {a : Nat → Int} {x : Int} {i : Nat} (h : i < posI (liI q a) x) : dnI q a x i = a i ∧ a i < x := by
  have hq := posI_q q a x
  have h1 := posI_lo h
  unfold dnI
  rw [insL_lo (posI_le _ _) h, liI_get (by omega)]
  rw [liI_get (by omega)] at h1
  exact ⟨rfl, h1⟩
theorem dnI_at {q : Nat} {a : Nat → Int} {x : Int} : dnI q a x (posI (liI q a) x) = x := insL_at (posI_le _ _)
theorem dnI_hi {q : Nat} {a : Nat → Int} {x : Int} {i : Nat} (h : posI (liI q a) x < i) (hi : i < q + 1) : dnI q a x i = a (i - 1) := by
  unfold dnI
  rw [insL_hi (posI_le _ _) h, liI_get (by omega)]
theorem posI_ge {q : Nat} {a : Nat → Int} {x : Int} (hs : ∀ i j, i < j → j < q → a i < a j) {i : Nat} (h : posI (liI q a) x ≤ i) (hi : i < q) : x ≤ a i := by
  have h1 := posI_hi (zs := liI q a) (x := x) (by rw [liI_len]; omega)
  rw [liI_get (by omega)] at h1
  by_cases e : posI (liI q a) x = i
  · rw [e] at h1; omega
  · have := hs (posI (liI q a) x) i (by omega) hi
    omega
theorem has_ne {q : Nat} {a : Nat → Int} {x : Int} (h : hasL q a x = false) {i : Nat} (hi : i < q) : a i ≠ x := fun e => of_decide_eq_false h ⟨i, hi, e⟩
theorem dnI_ok {q : Nat} {a : Nat → Int} {x : Int} (h : ∀ i, i < q → aftO a 10001 i) (hn : hasL q a x = false) (h1 : 1 ≤ x) (h2 : x < 10001) : ∀ i, i < q + 1 → aftO (dnI q a x) 10001 i := by
  have hs : ∀ i j, i < j → j < q → a i < a j := fun i j => rise_all h j
  have val : ∀ i, i < q + 1 → (i < posI (liI q a) x ∧ dnI q a x i = a i ∧ a i < x) ∨ (i = posI (liI q a) x ∧ dnI q a x i = x) ∨ (posI (liI q a) x < i ∧ dnI q a x i = a (i - 1) ∧ x < a (i - 1)) := fun i hi => by
    rcases Nat.lt_trichotomy i (posI (liI q a) x) with hl | hl | hl
    · exact Or.inl ⟨hl, (dnI_lo hl).1, (dnI_lo hl).2⟩
    · exact Or.inr (Or.inl ⟨hl, by rw [hl]; exact dnI_at⟩)
    · refine Or.inr (Or.inr ⟨hl, dnI_hi hl hi, ?_⟩)
      have g1 := posI_ge (x := x) hs (i := i - 1) (by omega) (by omega)
      have g2 := has_ne hn (i := i - 1) (by omega)
      omega
  intro i hi
  refine ⟨?_, ?_, fun h0 => ?_⟩
  · rcases val i hi with ⟨g, e, _⟩ | ⟨g, e⟩ | ⟨g, e, _⟩
    · rw [e]; exact (h i (by have := posI_q q a x; omega)).1
    · rw [e]; exact h1
    · rw [e]; exact (h (i - 1) (by omega)).1
  · rcases val i hi with ⟨g, e, _⟩ | ⟨g, e⟩ | ⟨g, e, _⟩
    · rw [e]; exact (h i (by have := posI_q q a x; omega)).2.1
    · rw [e]; exact h2
    · rw [e]; exact (h (i - 1) (by omega)).2.1
  · have hq := posI_q q a x
    rcases val i hi with ⟨g, e, e2⟩ | ⟨g, e⟩ | ⟨g, e, e2⟩ <;> rcases val (i - 1) (by omega) with ⟨g', e', e2'⟩ | ⟨g', e'⟩ | ⟨g', e', e2'⟩
    · rw [e, e']; exact hs _ _ (by omega) (by omega)
    · omega
    · omega
    · rw [e, e']; exact e2'
    · omega
    · omega
    · omega
    · rw [e, e']; exact e2
    · rw [e, e']; exact hs _ _ (by omega) (by omega)
theorem fea_good {l : List Feat} (h : Good l) : feaB l.length (fun i => l.getD i feat0) = true := by
  refine decide_eq_true ⟨h.n, fun i hi => ⟨h.f _ (getD_mem hi), fun h0 => ?_⟩⟩
  have hp := List.pairwise_iff_getElem.1 h.a (i - 1) i (by omega) hi (by omega)
  simp only [List.getD, List.getElem?_eq_getElem hi, List.getElem?_eq_getElem (show i - 1 < l.length by omega), Option.getD_some]
  exact hp
theorem fea_ap {n : Nat} {f : Nat → Feat} {k : Nat} {o : Nat → OpS} (he : apE n f k o = 0) : feaB (apN n f k o) (apF n f k o) = true := by
  unfold apE at he
  by_cases hV : apV n f k o = true
  · rw [if_pos hV] at he
    have hv : feaB n f = true := by unfold apV at hV; simp at hV; exact hV.1
    have hw : opsB k o = true := by unfold apV at hV; simp at hV; exact hV.2
    have hops := (of_decide_eq_true hw).2
    by_cases hj : apJ n f k o < k
    · rw [if_pos hj] at he
      exfalso
      have := (fstB_all (b := fun j => decide ((doL (runL (LF f n) o j) (o j)).1 ≠ 0)) (k := k)).2 hj
      exact of_decide_eq_true this he
    · have e1 : apN n f k o = (runL (LF f n) o k).length := by unfold apN; rw [if_pos hV, if_neg hj]
      rw [e1]
      exact fea_good (good_run (good_LF hv) hops k (Nat.le_refl k))
  · rw [if_neg hV] at he; exact absurd he (by decide)
theorem not_nu {N : NotS} (h : notB N = true) : 1 ≤ N.nu ∧ N.nu ≤ 10000 := (of_decide_eq_true h).1.1.2.1
theorem ed_ok {s : ShtS} {N : NotS} (h : ApE s N = 0) : shtB (edS s N) = true ∧ shtB s = true ∧ notB N = true ∧ N.kd = 1 ∧ prtB N s.ch = true ∧ hasL s.q s.dn N.nu = false ∧ mssB s (prt N s.ch) = false ∧ s.q < 200 ∧ apE s.n s.f (prt N s.ch).k (prt N s.ch).o = 0 := by
  unfold ApE at h
  by_cases h0 : (shtB s && notB N) = true
  · rw [if_pos h0] at h
    simp only [Bool.and_eq_true] at h0
    unfold edE at h
    by_cases h1 : N.kd ≠ 1
    · rw [if_pos h1] at h; cases h
    rw [if_neg h1] at h
    by_cases h2 : prtB N s.ch = false
    · rw [if_pos h2] at h; cases h
    rw [if_neg h2] at h
    unfold appE at h
    by_cases h3 : hasL s.q s.dn N.nu = true
    · rw [if_pos h3] at h; cases h
    rw [if_neg h3] at h
    by_cases h4 : mssB s (prt N s.ch) = true
    · rw [if_pos h4] at h; cases h
    rw [if_neg h4] at h
    by_cases h5 : 200 ≤ s.q
    · rw [if_pos h5] at h; cases h
    rw [if_neg h5] at h
    by_cases h6 : apE s.n s.f (prt N s.ch).k (prt N s.ch).o ≠ 0
    · rw [if_pos h6] at h; cases h
    have h6 : apE s.n s.f (prt N s.ch).k (prt N s.ch).o = 0 := by omega
    have hn : hasL s.q s.dn N.nu = false := by simpa using h3
    refine ⟨?_, h0.1, h0.2, by omega, by simpa using h2, hn, by simpa using h4, by omega, h6⟩
    have hv := h0.1
    have hnu := not_nu h0.2
    have hq := sht_q hv
    unfold shtB at hv ⊢
    simp only [Bool.and_eq_true] at hv ⊢
    refine ⟨⟨⟨?_, hv.1.1.2⟩, hv.1.2⟩, fea_ap h6⟩
    exact decide_eq_true ⟨by show s.q + 1 ≤ 200; omega, dnI_ok hq.2.2 hn hnu.1 (by omega)⟩
  · rw [if_neg h0] at h; cases h
theorem fea_ok {n : Nat} {f : Nat → Feat} (h : feaB n f = true) : ∀ i, i < n → (f i).Ok := fun i hi => feat_ok ((of_decide_eq_true h).2 i hi).1
theorem sht_ok {s : ShtS} (h : shtB s = true) : s.Ok := by
  have hq := sht_q h
  unfold shtB at h
  simp only [Bool.and_eq_true] at h
  exact ⟨by omega, by omega, fea_ok h.2⟩
def stpE (s : ShtS) (n : Nat) (N : Nat → NotS) (x : Int) : Int := if fndJ n N x < n then ApE s (N (fndJ n N x)) else 11
def corS (s : ShtS) (n : Nat) (N : Nat → NotS) (od : Nat → Int) : Nat → ShtS
  | 0 => s
  | i + 1 => edS (corS s n N od i) (N (fndJ n N (od i)))
def corJ (s : ShtS) (n : Nat) (N : Nat → NotS) (k : Nat) (od : Nat → Int) : Nat := fstB (fun i => decide (stpE (corS s n N od i) n N (od i) ≠ 0)) k
def corB (s : ShtS) (n : Nat) (N : Nat → NotS) (k : Nat) : Bool := shtB s && ntsB n N && decide (k ≤ 200)
def CorE (s : ShtS) (n : Nat) (N : Nat → NotS) (k : Nat) (od : Nat → Int) : Int := if corB s n N k = true then (if corJ s n N k od < k then stpE (corS s n N od (corJ s n N k od)) n N (od (corJ s n N k od)) else 0) else 1
def CorI (s : ShtS) (n : Nat) (N : Nat → NotS) (k : Nat) (od : Nat → Int) : Int := if corB s n N k = true then (if corJ s n N k od < k then (corJ s n N k od : Int) else -1) else -1
def CorS (s : ShtS) (n : Nat) (N : Nat → NotS) (k : Nat) (od : Nat → Int) : ShtS := if corB s n N k = true then (if corJ s n N k od < k then sht0 else corS s n N od k) else sht0
theorem cor_bad {s : ShtS} {n : Nat} {N : Nat → NotS} {k : Nat} {od : Nat → Int} (h : corB s n N k = false) : CorS s n N k od = sht0 ∧ CorI s n N k od = -1 ∧ CorE s n N k od = 1 := by
  unfold CorS CorI CorE; rw [h]; exact ⟨rfl, rfl, rfl⟩
theorem cor_err {s : ShtS} {n : Nat} {N : Nat → NotS} {k : Nat} {od : Nat → Int} (h : corB s n N k = true) {i : Nat} (hi : (i : Int) < k) (g : ∀ j, j < i → stpE (corS s n N od j) n N (od j) = 0) {e : Int} (he : stpE (corS s n N od i) n N (od i) = e) (h0 : e ≠ 0) : CorS s n N k od = sht0 ∧ CorI s n N k od = i ∧ CorE s n N k od = e := by
  have ej : corJ s n N k od = i := fstB_h (b := fun i => decide (stpE (corS s n N od i) n N (od i) ≠ 0)) (decide_eq_true (by rw [he]; exact h0)) (fun j hj => decide_eq_false (by rw [g j hj]; simp)) k (by omega)
  unfold CorS CorI CorE; rw [if_pos h, if_pos h, if_pos h, ej, if_pos (by omega), if_pos (by omega), if_pos (by omega)]
  exact ⟨rfl, rfl, he⟩
theorem cor_ok {s : ShtS} {n : Nat} {N : Nat → NotS} {k : Nat} {od : Nat → Int} (h : corB s n N k = true) {i : Nat} (hi : (k : Int) ≤ i) (g : ∀ j, j < i → stpE (corS s n N od j) n N (od j) = 0) : CorS s n N k od = corS s n N od k ∧ CorI s n N k od = -1 ∧ CorE s n N k od = 0 := by
  have ej : corJ s n N k od = k := fstB_t k fun j hj => decide_eq_false (by rw [g j (by omega)]; simp)
  unfold CorS CorI CorE; rw [if_pos h, if_pos h, if_pos h, ej, if_neg (Nat.lt_irrefl _), if_neg (Nat.lt_irrefl _), if_neg (Nat.lt_irrefl _)]
  exact ⟨rfl, rfl, rfl⟩
theorem cor_v {s : ShtS} {n : Nat} {N : Nat → NotS} {od : Nat → Int} (hv : shtB s = true) : ∀ i, (∀ j, j < i → stpE (corS s n N od j) n N (od j) = 0) → shtB (corS s n N od i) = true
  | 0, _ => hv
  | i + 1, g => by
    have h := g i (by omega)
    unfold stpE at h
    split at h
    · exact (ed_ok h).1
    · cases h
theorem stp_t {s : ShtS} {n : Nat} {N : Nat → NotS} {x : Int} (h : fndJ n N x < n) : stpE s n N x = ApE s (N (fndJ n N x)) := by unfold stpE; rw [if_pos h]
theorem cor_no {s : ShtS} {n : Nat} {N : Nat → NotS} {k : Nat} (h : corB s n N k = false) (hc : (shtB s = true ∧ ntsB n N = true) ∧ (k : Int) ≤ 200) : False := by
  unfold corB at h
  rw [hc.1.1, hc.1.2] at h
  have := of_decide_eq_false (by simpa using h : decide (k ≤ 200) = false)
  omega
theorem nts_n {n : Nat} {N : Nat → NotS} (h : ntsB n N = true) : n ≤ 200 ∧ ∀ i, i < n → notO N i := of_decide_eq_true h
end Go.Proofs.YtdhgiklbkmkblaaGreat
set_option maxRecDepth 100000
set_option maxHeartbeats 4000000
namespace Go.Proofs.YtdhgiklbkmkblaaGreat
open Go.RowKit Go.Sea
open Nat renaming reduceAdd → xA, reduceLT → xL, reduceLeDiff → xD, reduceEqDiff → xE, reduceMul → xM, reduceSub → xS, reduceBEq → xB
theorem fnok_96 : fnOk Tryz.prog 96 = true := by kernel_rfl
theorem fnok_97 : fnOk Tryz.prog 97 = true := by kernel_rfl
theorem fo_30 : fieldsOk Tryz.prog 30 = true := by kernel_rfl
theorem in_155 : inD Tryz.prog 155 = some .u64 := by kernel_rfl
theorem in_3 : inD Tryz.prog 3 = some .i64 := by kernel_rfl
theorem ty_155 : tyD Tryz.prog 155 = some (false, 1) := by kernel_rfl
attribute [go_sem] fnok_96 fo_30 in_155 in_3 ty_155
def cmpV (a b : Int) : Int := if a < b then -1 else if b < a then 1 else 0
theorem cmpV_lt (a b : Int) : (cmpV a b < 0) = (a < b) := by unfold cmpV; refine propext ?_; split <;> (try split) <;> omega
theorem cmpV_eq (a b : Int) : (cmpV a b = 0) = (a = b) := by unfold cmpV; refine propext ?_; split <;> (try split) <;> omega
theorem seaMid (i j : Nat) (h1 : i ≤ 1000000) (h2 : j ≤ 1000000) : IntKind.i64.wrap ((IntKind.u64.wrap ((i : Int) + (j : Int))).fdiv (2 ^ min (Int.toNat 1) 64)) = (((i + j) / 2 : Nat) : Int) := by
  have e1 : IntKind.u64.wrap ((i : Int) + (j : Int)) = (i : Int) + (j : Int) := by
    unfold IntKind.wrap IntKind.signed IntKind.bits
    simp only
    split <;> simp_all <;> omega
  have e2 : ((2 : Int) ^ min (Int.toNat 1) 64) = 2 := by decide
  rw [e1, e2, Int.fdiv_eq_ediv_of_nonneg _ (by omega), seaWrap (by omega) (by omega)]
  omega
theorem callGK_s {P : Program} {gs : List (Option Nat)} {b : Bool} {o : Oper} {os : List Oper} {s : AS} {K : AS → Prop} (h1 : b = true → callK P gs o os s K) (h2 : b = false → arun P gs os (s.put o.dst .any) K) : callGK P gs b o os s K := Or.inr ⟨h1, h2⟩
def not0 : NotS := ⟨0, 0, 0, 0, 0, 0, 0, fun _ => part0⟩
def fndB (n : Nat) (N : Nat → NotS) (x : Int) : Bool := decide (fndJ n N x < n)
def fndS (n : Nat) (N : Nat → NotS) (x : Int) : NotS := if fndB n N x = true then N (fndJ n N x) else not0
theorem nts_rise {n : Nat} {N : Nat → NotS} (h : ∀ i, i < n → notO N i) {i : Nat} : ∀ j, i < j → j < n → (N i).nu < (N j).nu
  | 0, hij, _ => absurd hij (Nat.not_lt_zero _)
  | j + 1, hij, hj => by
    have h1 := (h (j + 1) hj).2.2 (by omega)
    rw [Nat.add_sub_cancel] at h1
    by_cases e : i = j
    · subst e; exact h1
    · have := nts_rise (i := i) h j (by omega) (by omega)
      omega
theorem fnd_hit {n : Nat} {N : Nat → NotS} {x : Int} {i : Nat} (hi : i < n) (h : (N i).nu = x) (g : ∀ k, k < i → (N k).nu < x) : fndS n N x = N i ∧ fndB n N x = true := by
  have e : fndJ n N x = i := fstB_h (b := fun i => decide ((N i).nu = x)) (decide_eq_true h) (fun j hj => decide_eq_false (by have := g j hj; omega)) _ hi
  have e2 : fndB n N x = true := decide_eq_true (by rw [e]; exact hi)
  refine ⟨?_, e2⟩
  unfold fndS; rw [if_pos e2, e]
theorem fnd_mis {n : Nat} {N : Nat → NotS} {x : Int} (g : ∀ k, k < n → (N k).nu ≠ x) : fndS n N x = not0 ∧ fndB n N x = false := by
  have e : fndJ n N x = n := fstB_t _ fun j hj => decide_eq_false (g j hj)
  have e2 : fndB n N x = false := decide_eq_false (by rw [e]; omega)
  refine ⟨?_, e2⟩
  unfold fndS; rw [if_neg (by rw [e2]; simp)]
theorem nts_lo {n : Nat} {N : Nat → NotS} {x : Int} (h : ∀ i, i < n → notO N i) {m : Nat} (hm : m < n) (hc : (N m).nu < x) : ∀ k, k < m + 1 → (N k).nu < x := fun k hk => by
  by_cases e : k = m
  · subst e; exact hc
  · have := nts_rise (i := k) h m (by omega) hm
    omega
theorem nts_hi {n : Nat} {N : Nat → NotS} {x : Int} (h : ∀ i, i < n → notO N i) {m : Nat} (hc : x ≤ (N m).nu) : ∀ k, m ≤ k → k < n → x ≤ (N k).nu := fun k hk hn => by
  by_cases e : k = m
  · subst e; exact hc
  · have := nts_rise (i := m) h k (by omega) hn
    omega
theorem fnd_1 {n : Nat} {N : Nat → NotS} {x : Int} (h : ∀ i, i < n → notO N i) {i j : Nat} (hlo : ∀ k, k < i → (N k).nu < x) (hhi : ∀ k, j ≤ k → k < n → x ≤ (N k).nu) (hji : (j : Int) ≤ i) (hi : (i : Int) < n) (hc : cmpV (N i).nu x ≠ 0) : fndS n N x = not0 ∧ fndB n N x = false := by
  have h0 : (N i).nu ≠ x := fun e => hc (by rw [cmpV_eq]; exact e)
  have h1 := hhi i (by omega) (by omega)
  refine fnd_mis fun k hk => ?_
  rcases Nat.lt_trichotomy k i with g | g | g
  · have := hlo k g; omega
  · subst g; exact h0
  · have := nts_rise (i := i) h k g hk; omega
theorem find1_p (N : NotS) (x : Int) (ho : N.Ok) : CallsP Tryz.prog 97 [(noP N), .one (.g (.int .i64 x))] (.t (.one (.g (.int .i64 (cmpV N.nu x))))) := by
  refine CallsP_of Tryz.func97 rfl (by rw [Tryz.ntmps97]; simp) ?_
  simp only [noP, Tryz.ntmps97, zM, PT.tv, argEnv, Nat.zero_add, Nat.reduceAdd]
  repeat' (first
 | ((with_reducible show AW _ _ _ _); first
 | (with_reducible first | refine aS (fun K hK => ?_) | refine aT ?_)
 | (first
 | (with_reducible first | refine aP 0 [0,1] ?_ | refine aP 1 [1,2] ?_)))
 | (((with_reducible refine Need.mk ?_)); focus (exact True.intro))
 | (with_reducible refine retK_n ?_)
 | ((with_reducible show callN _ _ _ _ _ _ _ _ _ _); first
 | (refine callN_q (k := 98) fnok_98 (gcmp_p _ _) ?_ ?_))
 | ((fail_if_success (with_reducible show AW _ _ _ _)); simp (maxSteps := 2000000) only [go_sem, reduceIte, reduceCtorEq, xA, xL, xD, xE, xM, xS, xB, Tryz.f97])
 | ((with_reducible refine hK _ ?_); clear hK K))
  all_goals (rfl)
theorem fnd_p (n : Nat) (N : Nat → NotS) (hn : n ≤ 9223372036854775807) (hN : ∀ i, i < n → (N i).Ok) (x : Int) (hw : ntsB n N = true) : CallsP Tryz.prog 64 [.one (.lst 7 n (notF N)), .one (.g (.int .i64 x))] (.tup [(noP (fndS n N x)), .one (.g (.bool (fndB n N x)))]) := by
  have hmid : True := trivial
  have hnt := nts_n hw
  have hn2 := hnt.1
  refine CallsP_of Tryz.func64 rfl (by rw [Tryz.ntmps64]; simp) ?_
  simp only [noP, Tryz.ntmps64, zM, PT.tv, argEnv, Nat.zero_add, Nat.reduceAdd]
  repeat' (first
 | ((refine callGK_s ?_ ?_) <;> (intro hc; (try rw [hc]); (try simp only [zB, zC, reduceCtorEq] at hc); (try (exfalso; contradiction))))
 | ((with_reducible show AW _ _ _ _); first
 | (with_reducible first | refine aS (fun K hK => ?_) | refine aI ?_ | refine aX ?_ | refine aT ?_ | refine aC ?_ | refine aB ?_)
 | (first
 | (with_reducible first | refine aP (ops := #[⟨some 4, _, _, _, _, _⟩, _]) 0 [0,1] ?_ | refine aP (ops := #[⟨some 6, _, _, _, _, _⟩, _]) 0 [0,1,2] ?_ | refine aP (ops := #[⟨some 9, _, _, _, _, _⟩, _, _, _, _, _, _, _]) 1 [0,1,4] ?_ | refine aP (ops := #[⟨some 12, _, _, _, _, _⟩, _, _]) 1 [0,1,2] ?_ | refine aP (ops := #[⟨some 14, _, _, _, _, _⟩, _]) 2 [0,4,6,7] ?_ | refine aP (ops := #[⟨some 14, _, _, _, _, _⟩, _, _]) 2 [0,1,2,8] ?_ | refine aP (ops := #[⟨some 16, _, _, _, _, _⟩, _, _]) 3 [4] ?_ | refine aP (ops := #[⟨some 15, _, _, _, _, _⟩, _, _]) 3 [0,1,2,8,9,10] ?_ | refine aP (ops := #[⟨some 17, _, _, _, _, _⟩, _, _, _, _, _]) 4 [0,4,6] ?_ | refine aP (ops := #[⟨some 18, _, _, _, _, _⟩, _, _, _, _, _, _]) 4 [0,1,2,8,9,10] ?_ | refine aP 5 [0,1,2,8,9,10,11] ?_ | refine aP 6 [0,1,2,8,10,11] ?_ | refine aP 7 [0,1,2,8,9,11] ?_ | refine aP 8 [0,1,2,8,9] ?_))
 | ((with_reducible show AW _ (Code.loop _) _ _); first
 | ((with_reducible refine aL (c := (Code.seq (Code.seq (Code.region 3 _ _) _) _)) (ι := (Nat × Nat)) [0,1,2,8] (fun ⟨i, j⟩ => [(9, iA .i64 (i : Int)), (10, iA .i64 (j : Int))]) (fun ⟨i, j⟩ => []) (fun ⟨i, j⟩ => (i ≤ j ∧ j ≤ n) ∧ (∀ k, k < i → (N k).nu < x) ∧ (∀ k, j ≤ k → k < n → x ≤ (N k).nu)) (fun ⟨i, j⟩ => j - i) ⟨0, n⟩ ?lg3 ?l13 ?l23 ?li3 ?lr3); (case' lg3 => rintro ⟨i, j⟩ _); (case' li3 => try (exact ⟨⟨Nat.zero_le _, Nat.le_refl _⟩, fun k h => absurd h (Nat.not_lt_zero _), fun k h1 h2 => absurd h2 (by omega)⟩)); (case' lr3 => rintro ⟨i, j⟩ ⟨hij, hlo, hhi⟩ KR hR3; clear hmid; have hmid := seaMid i j (by omega) (by omega); simp only [keepE, hupd, hset, lk, if_true, if_false, xE, reduceIte, zN, cmpV_lt, cmpV_eq, hmid, Int.toNat_natCast]))))
 | ((first | (with_reducible refine And.intro ?_ ?_) | (with_reducible refine Need.mk ?_)); focus (first | exact True.intro | omega | (simp (disch := omega) only [Bool.and_eq_true, Bool.or_eq_true, decide_eq_true_eq, bne_iff_ne, ne_eq] at *; omega)))
 | (with_reducible refine retK_n ?_)
 | ((with_reducible show condN _ _ _ _ _ _); first
 | ((with_reducible refine condN_t ?_ ?_) <;> (intro hc; (try simp only [zB, zC, reduceCtorEq] at hc); (try (exfalso; contradiction)))))
 | ((with_reducible show callN _ _ _ _ _ _ _ _ _ _); first
 | (refine callN_q (k := 97) fnok_97 (find1_p (N ((i + j) / 2)) x (hN _ (by omega))) ?_ ?_)
 | (refine callN_q (k := 97) fnok_97 (find1_p (N i) x (hN _ (by omega))) ?_ ?_)
 | ((refine callN_i (k := 96) Tryz.func96 rfl fnok_96 (by rw [Tryz.ntmps96]; simp) ?_ ?_ (fun K hK => ?_)); (focus (exact True.intro)); (focus ((simp [lsF]; done))); simp only [Tryz.ntmps96, List.map_cons, List.map_nil, List.nil_append, List.cons_append, List.append_nil, LV.tv, argEnv, Nat.zero_add, Nat.reduceAdd]))
 | ((with_reducible refine hR3 _ ⟨(i + j) / 2 + 1, j⟩ ?_); (try clear hR3 KR); (with_reducible refine Told.mk ?_); simp only [go_sem, reduceIte, reduceCtorEq, xA, xL, xD, xE, xM, xS, xB, cmpV_lt, cmpV_eq, hmid, Int.toNat_natCast]; ((try simp (disch := omega) only [seaWrap, Int.natCast_add, Int.cast_ofNat_Int, and_true, true_and, and_self]); (repeat' (first | omega | (with_reducible refine And.intro ?_ ?_) | ((exact nts_lo hnt.2 (by omega) hc)))); done))
 | ((with_reducible refine hR3 _ ⟨i, (i + j) / 2⟩ ?_); (try clear hR3 KR); (with_reducible refine Told.mk ?_); simp only [go_sem, reduceIte, reduceCtorEq, xA, xL, xD, xE, xM, xS, xB, cmpV_lt, cmpV_eq, hmid, Int.toNat_natCast]; (((try simp (disch := omega) only [seaWrap, Int.natCast_add, Int.cast_ofNat_Int, and_true, true_and, and_self]); (repeat' (first | omega | (with_reducible refine And.intro ?_ ?_) | ((exact nts_hi hnt.2 hc)))); done)))
 | ((with_reducible refine Told.mk ?_); simp only [go_sem, reduceIte, reduceCtorEq, xA, xL, xD, xE, xM, xS, xB, cmpV_lt, cmpV_eq, hmid, Int.toNat_natCast] <;> ((((try simp (disch := omega) only [seaWrap, Int.natCast_add, Int.cast_ofNat_Int, and_true, true_and, and_self]); (repeat' (exact True.intro)); done))))
 | ((fail_if_success (with_reducible show AW _ _ _ _)); simp (maxSteps := 2000000) only [go_sem, reduceIte, reduceCtorEq, xA, xL, xD, xE, xM, xS, xB, Tryz.f64, Tryz.f96, cmpV_lt, cmpV_eq, hmid, Int.toNat_natCast])
 | ((fail_if_success (with_reducible show AW _ _ _ _)); simp (disch := omega) only [seaWrap, seaDiv, seaMod])
 | ((with_reducible refine hK _ ?_); clear hK K)
 | (with_reducible apply_assumption -exfalso only [*]))
  all_goals (first | (have e := fnd_1 hnt.2 hlo hhi (by omega) (by omega) hc; rw [e.1, e.2]; (repeat' (first | exact rfl | (with_reducible refine And.intro ?_ ?_))); done) | (have e := fnd_hit (n := n) (N := N) (x := x) (i := i) (by omega) (Eq.mp (cmpV_eq _ _) hc) hlo; rw [e.1, e.2]; (repeat' (first | exact rfl | (with_reducible refine And.intro ?_ ?_) | (intro i q hi hq; exact IV.eqv_refl _))); done) | (have e := fnd_mis (n := n) (N := N) (x := x) (fun k hk => by have := hlo k (by omega); omega); rw [e.1, e.2]; (repeat' (first | exact rfl | (with_reducible refine And.intro ?_ ?_))); done))
end Go.Proofs.YtdhgiklbkmkblaaGreat
set_option maxRecDepth 100000
set_option maxHeartbeats 4000000
namespace Go.Proofs.YtdhgiklbkmkblaaGreat
open Go.RowKit Go.Sea
open Nat renaming reduceAdd → xA, reduceLT → xL, reduceLeDiff → xD, reduceEqDiff → xE, reduceMul → xM, reduceSub → xS, reduceBEq → xB
theorem fnok_50 : fnOk Tryz.prog 50 = true := by kernel_rfl
theorem fnok_57 : fnOk Tryz.prog 57 = true := by kernel_rfl
theorem fnok_64 : fnOk Tryz.prog 64 = true := by kernel_rfl
attribute [go_sem] fnok_50 fnok_57 fnok_64
theorem part0_ok : part0.Ok := ⟨by simp [part0], by simp [part0], fun i h => absurd h (Nat.not_lt_zero _)⟩
theorem prtS_ok {N : NotS} (h : N.Ok) (ch : Int) : (prtS N ch).Ok := by
  unfold prtS; split
  · rename_i g; exact h.p _ (of_decide_eq_true g)
  · exact part0_ok
theorem not0_ok : not0.Ok := ⟨by simp [not0], fun i h => absurd h (Nat.not_lt_zero _)⟩
theorem fndS_ok {n : Nat} {N : Nat → NotS} (h : ∀ i, i < n → (N i).Ok) (x : Int) : (fndS n N x).Ok := by
  unfold fndS; split
  · rename_i g; exact h _ (of_decide_eq_true g)
  · exact not0_ok
theorem fndS_t {n : Nat} {N : Nat → NotS} {x : Int} (h : fndB n N x = true) : fndS n N x = N (fndJ n N x) ∧ fndJ n N x < n := ⟨by unfold fndS; rw [if_pos h], of_decide_eq_true h⟩
theorem fndS_v {n : Nat} {N : Nat → NotS} {x : Int} (hw : ntsB n N = true) (h : fndB n N x = true) : notB (fndS n N x) = true := by
  rw [(fndS_t h).1]; exact ((nts_n hw).2 _ (fndS_t h).2).1
theorem stp_b {s : ShtS} {n : Nat} {N : Nat → NotS} {x : Int} (h : fndB n N x = true) : stpE s n N x = ApE s (fndS n N x) := by
  rw [(fndS_t h).1]; exact stp_t (fndS_t h).2
theorem stp_n {s : ShtS} {n : Nat} {N : Nat → NotS} {x : Int} (h : fndB n N x = false) : stpE s n N x = 11 := by
  unfold stpE; rw [if_neg (of_decide_eq_false h)]
theorem prtS_e {N : NotS} {ch : Int} (h : prtB N ch = true) : prtS N ch = prt N ch := by unfold prtS; rw [if_pos h]
theorem ap_16s {s : ShtS} {N : NotS} (hb : prtB N s.ch = true) (h : hasL s.q s.dn N.nu = false) {j : Nat} (hj : (j : Int) < (prtS N s.ch).q) (h2 : hasL s.q s.dn ((prtS N s.ch).a j) = false) : appE s N = 16 := by
  rw [prtS_e hb] at hj h2; exact ap_16 h hj h2
theorem mss_fs {s : ShtS} {N : NotS} (hb : prtB N s.ch = true) {j : Nat} (hj : ((prtS N s.ch).q : Int) ≤ j) (g : ∀ k, k < j → hasL s.q s.dn ((prtS N s.ch).a k) = true) : mssB s (prt N s.ch) = false := by
  rw [prtS_e hb] at hj g; exact mss_f hj g
theorem ap_15s {s : ShtS} {N : NotS} (hb : prtB N s.ch = true) (h : hasL s.q s.dn N.nu = false) (hm : mssB s (prt N s.ch) = false) (hq : (s.q : Int) < 200) (he : apE s.n s.f (prtS N s.ch).k (prtS N s.ch).o ≠ 0) : appE s N = 15 := by
  rw [prtS_e hb] at he; exact ap_15 h hm hq he
theorem ap_0s {s : ShtS} {N : NotS} (hb : prtB N s.ch = true) (h : hasL s.q s.dn N.nu = false) (hm : mssB s (prt N s.ch) = false) (hq : (s.q : Int) < 200) (he : apE s.n s.f (prtS N s.ch).k (prtS N s.ch).o = 0) : appE s N = 0 := by
  rw [prtS_e hb] at he; exact ap_0 h hm hq he
theorem cor_step {s : ShtS} {n : Nat} {N : Nat → NotS} {od : Nat → Int} {i : Nat} {F : NotS} (hF : F = fndS n N (od i)) (h : fndB n N (od i) = true) (hb : prtB F (corS s n N od i).ch = true) : corS s n N od (i + 1) = { corS s n N od i with q := (corS s n N od i).q + 1, dn := dnI (corS s n N od i).q (corS s n N od i).dn F.nu, n := apN (corS s n N od i).n (corS s n N od i).f (prtS F (corS s n N od i).ch).k (prtS F (corS s n N od i).ch).o, f := apF (corS s n N od i).n (corS s n N od i).f (prtS F (corS s n N od i).ch).k (prtS F (corS s n N od i).ch).o } := by
  rw [prtS_e hb, hF, (fndS_t h).1]; rfl
theorem hil_e (s : ShtS) (x : Int) : (rowI (insL (liI s.q s.dn) (posI (liI s.q s.dn) x) x)).length = s.q + 1 := by rw [rowI_len, insL_len (posI_le _ _), liI_len]
set_option maxHeartbeats 16000000 in
theorem cor_t (s : ShtS) (n : Nat) (N : Nat → NotS) (k : Nat) (od : Nat → Int) (hs : s.Ok) (hn : n ≤ 9223372036854775807) (hN : ∀ i, i < n → (N i).Ok) (hk : k ≤ 9223372036854775807) (hB : corB s n N k = true) : CallsP Tryz.prog 19 [(shP s), .one (.lst 7 n (notF N)), .one (.lst 1 k (intI od))] (.tup [(shP (CorS s n N k od)), .one (.g (.int .i64 (CorI s n N k od))), .one (.g (.int .i64 (CorE s n N k od)))]) := by
  have hil : True := trivial
  have mk1 : True := trivial
  have hB2 := hB
  unfold corB at hB2
  simp only [Bool.and_eq_true, decide_eq_true_eq] at hB2
  have hv := hB2.1.1
  have hw := hB2.1.2
  have hk2 : ((k : Int) ≤ 200) = True := by simp; omega
  refine CallsP_of Tryz.func19 rfl (by rw [Tryz.ntmps19]; simp) ?_
  simp only [shP, Tryz.ntmps19, zM, PT.tv, argEnv, Nat.zero_add, Nat.reduceAdd]
  repeat' (first
 | ((with_reducible show AW _ _ _ _); first
 | (with_reducible first | refine aS (fun K hK => ?_) | refine aI ?_ | refine aX ?_ | refine aT ?_ | refine aC ?_ | refine aB ?_)
 | (first
 | ((with_reducible show AW _ (Code.region 17 _ true) _ _); refine AW_ins (m := (corS s n N od i).q) (p := posI (liI (corS s n N od i).q (corS s n N od i).dn) (fndS n N (od i)).nu) (zs := liI (corS s n N od i).q (corS s n N od i).dn) (x := (fndS n N (od i)).nu) 30 31 rfl rfl rfl rfl rfl rfl rfl rfl rfl rfl rfl ⟨rfl, by simp, by decide⟩ rfl rfl (by decide) (by omega) (liI_row _ _) (liI_len _ _) (posI_q _ _ _) rfl rfl rfl rfl (by decide) (by kernel_rfl) (by kernel_rfl) (by kernel_rfl) (by kernel_rfl) (by kernel_rfl) ?_)
 | (with_reducible first | refine aP 0 [0,1,2] ?_ | refine aP (ops := #[⟨some 12, _, _, _, _, _⟩, _, _, _, _, _, _, _, _, _, _, _, _]) 1 [1,2,3,6] ?_ | refine aP (ops := #[⟨some 14, _, _, _, _, _⟩, _, _]) 1 [0,1,2] ?_ | refine aP (ops := #[⟨some 5, _, _, _, _, _⟩, _, _, _, _]) 1 [0,1] ?_ | refine aP (ops := #[⟨some 6, _, _, _, _, _⟩, _, _]) 1 [0,1] ?_ | refine aP (ops := #[⟨some 4, _, _, _, _, _⟩, _, _, _, _, _, _]) 1 [0,1] ?_)
 | ((with_reducible refine aR (c := Code.region 1 _ true) [2,3] ?_); (with_reducible refine aD ?_ ?_ ?_ ?_); (focus kernel_rfl); (focus kernel_rfl); (focus kernel_rfl))
 | (with_reducible first | refine aP (ops := #[⟨some 16, _, _, _, _, _⟩, _, _]) 2 [1,2,8] ?_ | refine aP (ops := #[⟨some 9, _, _, _, _, _⟩]) 2 [0,1,7,8] ?_ | refine aP (ops := #[⟨some 23, _, _, _, _, _⟩, _]) 2 [2,3,5,6] ?_ | refine aP (ops := #[⟨some 26, _, _, _, _, _⟩, _, _, _]) 3 [1,2,3,6] ?_ | refine aP (ops := #[⟨some 19, _, _, _, _, _⟩]) 3 [1,8,16,17,18] ?_ | refine aP (ops := #[⟨some 10, _, _, _, _, _⟩, _]) 3 [0,1,7,8] ?_ | refine aP (ops := #[⟨some 25, _, _, _, _, _⟩, _, _, _]) 3 [2,3,5,6,7] ?_ | refine aP (ops := #[⟨some 29, _, _, _, _, _⟩, _, _, _, _, _, _, _]) 4 [1,2,6,9] ?_ | refine aP (ops := #[⟨some 20, _, _, _, _, _⟩, _, _, _, _]) 4 [1,8,16,17,18] ?_ | refine aP (ops := #[⟨some 11, _, _, _, _, _⟩, _, _, _, _, _]) 4 [0,1,5,7,8] ?_ | refine aP (ops := #[⟨some 4, _, _, _, _, _⟩]) 4 [] ?_ | refine aP (ops := #[⟨some 34, _, _, _, _, _⟩, _]) 5 [6,9,10,11] ?_ | refine aP (ops := #[⟨some 24, _, _, _, _, _⟩, _, _, _, _, _, _, _, _]) 5 [1,8,9,10,16,17,18] ?_ | refine aP (ops := #[⟨some 17, _, _, _, _, _⟩, _]) 5 [5] ?_ | refine aP (ops := #[⟨some 29, _, _, _, _, _⟩, _, _]) 5 [2,3,5,6,7] ?_ | refine aP (ops := #[⟨some 36, _, _, _, _, _⟩, _, _, _, _, _]) 6 [6,10,11] ?_ | refine aP (ops := #[⟨some 29, _, _, _, _, _⟩, _]) 6 [1,8,9,11,12,16,17,18] ?_ | refine aP (ops := #[⟨some 18, _, _, _, _, _⟩, _]) 6 [0,1,7,8] ?_ | refine aP (ops := #[⟨some 4, _, _, _, _, _⟩]) 6 [] ?_ | refine aP (ops := #[⟨some 39, _, _, _, _, _⟩, _, _, _, _]) 7 [6,9] ?_ | refine aP (ops := #[⟨some 31, _, _, _, _, _⟩, _, _]) 7 [9] ?_ | refine aP (ops := #[⟨some 4, _, _, _, _, _⟩]) 7 [] ?_)
 | ((with_reducible refine aR (c := Code.region 7 _ true) [2,3,5,7] ?_); (with_reducible refine aD ?_ ?_ ?_ ?_); (focus kernel_rfl); (focus kernel_rfl); (focus kernel_rfl))
 | (with_reducible first | refine aP (ops := #[⟨some 32, _, _, _, _, _⟩, _, _, _]) 8 [1,8,9,11,16,17,18] ?_ | refine aP (ops := #[⟨some 4, _, _, _, _, _⟩]) 8 [] ?_ | refine aP (ops := #[⟨some 35, _, _, _, _, _⟩, _]) 9 [1,8,9,13,16,17,18] ?_ | refine aP (ops := #[⟨some 39, _, _, _, _, _⟩, _, _, _, _]) 9 [2,3,5,7] ?_ | refine aP (ops := #[⟨some 37, _, _, _, _, _⟩, _, _, _]) 10 [9,13] ?_ | refine aP (ops := #[⟨some 4, _, _, _, _, _⟩]) 10 [] ?_ | refine aP (ops := #[⟨some 39, _, _, _, _, _⟩, _]) 11 [1,8,16,17,18] ?_ | refine aP (ops := #[⟨some 44, _, _, _, _, _⟩, _, _, _, _, _, _, _]) 11 [2,3,5] ?_ | refine aP (ops := #[⟨some 6, _, _, _, _, _⟩, _]) 12 [] ?_ | refine aP (ops := #[⟨some 4, _, _, _, _, _⟩]) 12 [] ?_)
 | ((with_reducible refine aR (c := Code.region 13 _ true) [2,3,5] ?_); (with_reducible refine aD ?_ ?_ ?_ ?_); (focus kernel_rfl); (focus kernel_rfl); (focus kernel_rfl))
 | (with_reducible first | refine aP 14 [2,3,8,10] ?_ | refine aP 15 [] ?_)
 | ((with_reducible refine aR (c := Code.region 16 _ true) [2,3,8] ?_); (with_reducible refine aD ?_ ?_ ?_ ?_); (focus kernel_rfl); (focus kernel_rfl); (focus kernel_rfl))
 | (with_reducible refine AW_frz (c := Code.region 18 _ false) [30] ?_ (aP 18 [] ?_)))
 | ((with_reducible show AW _ (Code.loop _) _ _); first
 | ((with_reducible refine aL (c := (Code.seq (Code.region 3 _ _) _)) (ι := Nat) [1,8,16,17] (fun i => [(18, iA .i64 (i : Int))]) (fun i => [(2, [.iv (.g (.int .i64 (corS s n N od i).ch)), .iv (.g (.int .i64 (corS s n N od i).sc)), .iv (.g (.int .i64 (corS s n N od i).ed)), .iv (.g (.int .i64 (corS s n N od i).m.A)), .iv (.g (.int .i64 (corS s n N od i).m.B)), .iv (.g (.int .i64 (corS s n N od i).m.C)), .iv (.g (.int .i64 (corS s n N od i).m.D)), .iv (.g (.int .i64 (corS s n N od i).m.E)), .iv (.g (.int .i64 (corS s n N od i).m.F)), .iv (.g (.int .i64 (corS s n N od i).m.R)), .iv (.g (.int .i64 (corS s n N od i).cap)), .iv (.lst 1 (corS s n N od i).q (intI (corS s n N od i).dn)), .iv (.lst 9 (corS s n N od i).n (featF (corS s n N od i).f))])]) (fun i => i ≤ k ∧ (∀ j, j < i → stpE (corS s n N od j) n N (od j) = 0)) (fun i => k - i) 0 ?lg3 ?l13 ?l23 ?li3 ?lr3); (case' lg3 => rintro i _); (case' li3 => try (exact ⟨Nat.zero_le _, fun i hi => absurd hi (Nat.not_lt_zero _)⟩)); (case' lr3 => rintro i ⟨hi, hai⟩ KR hR3; (clear mk1; have hvi := cor_v (N := N) (n := n) (od := od) hv i hai; have hCo := sht_ok hvi; have hsq := sht_q hvi; have hF := fndS_ok hN (od i); have hFn := hF.n; have hP := prtS_ok hF (corS s n N od i).ch; have hPk := hP.k; have hPq := hP.q; have hPo := hP.o; clear hil; have hil := hil_e (corS s n N od i) (fndS n N (od i)).nu); simp only [keepE, hupd, hset, lk, if_true, if_false, xE, reduceIte, zN, hv, hw, hk2, hil, insH, insC, Nat.le_refl]))
 | ((with_reducible refine aL (c := (Code.seq (Code.region 2 _ _) _)) (ι := Nat) [0,1,7] (fun j => [(8, iA .i64 (j : Int))]) (fun j => []) (fun j => j ≤ (prtS (fndS n N (od i)) (corS s n N od i).ch).q ∧ (∀ k, k < j → hasL (corS s n N od i).q (corS s n N od i).dn ((prtS (fndS n N (od i)) (corS s n N od i).ch).a k) = true)) (fun j => (prtS (fndS n N (od i)) (corS s n N od i).ch).q - j) 0 ?lg2 ?l12 ?l22 ?li2 ?lr2); (case' lg2 => rintro j _); (case' li2 => try (exact ⟨Nat.zero_le _, fun i hi => absurd hi (Nat.not_lt_zero _)⟩)); (case' lr2 => rintro j ⟨hj, haj⟩ KR hR2; simp only [keepE, hupd, hset, lk, if_true, if_false, xE, reduceIte, zN, hv, hw, hk2, hil, insH, insC, Nat.le_refl]))))
 | ((first | (with_reducible refine And.intro ?_ ?_) | (with_reducible refine Need.mk ?_)); focus (first | exact rowI_iv _ | first | exact True.intro | omega | (intro _; exact True.intro)))
 | (with_reducible refine retK_n ?_)
 | ((with_reducible show condN _ _ _ _ _ _); first
 | ((with_reducible refine condN_t ?_ ?_) <;> (intro hc; (try simp only [zB, zC, reduceCtorEq] at hc); (try (exfalso; first | contradiction | omega)))))
 | ((with_reducible refine And.intro ?_ ?_); focus ((with_reducible show chkR _ _ _ = true); kernel_rfl))
 | ((with_reducible show callN _ _ _ _ _ _ _ _ _ _); first
 | (refine callN_q (k := 34) fnok_34 (sheet_p s hs) ?_ ?_)
 | (refine callN_q (k := 64) fnok_64 (fnd_p n N hn hN (od i) hw) ?_ ?_)
 | (refine callN_q (k := 63) fnok_63 (has_p (corS s n N od i) _ (sht_ok hvi) hvi) ?_ ?_)
 | ((refine callN_i (k := 57) Tryz.func57 rfl fnok_57 (by rw [Tryz.ntmps57]; simp) ?_ ?_ (fun K hK => ?_)); (focus (exact True.intro)); (focus ((simp [lsF]; done))); simp only [Tryz.ntmps57, List.map_cons, List.map_nil, List.nil_append, List.cons_append, List.append_nil, LV.tv, argEnv, Nat.zero_add, Nat.reduceAdd])
 | ((refine callN_i (k := 61) Tryz.func61 rfl fnok_61 (by rw [Tryz.ntmps61]; simp) ?_ ?_ (fun K hK => ?_)); (focus (exact True.intro)); (focus ((simp [lsF]; done))); simp only [Tryz.ntmps61, List.map_cons, List.map_nil, List.nil_append, List.cons_append, List.append_nil, LV.tv, argEnv, Nat.zero_add, Nat.reduceAdd])
 | ((refine callN_i (k := 95) Tryz.func95 rfl fnok_95 (by rw [Tryz.ntmps95]; simp) ?_ ?_ (fun K hK => ?_)); (focus (exact True.intro)); (focus ((simp [lsF]; done))); simp only [Tryz.ntmps95, List.map_cons, List.map_nil, List.nil_append, List.cons_append, List.append_nil, LV.tv, argEnv, Nat.zero_add, Nat.reduceAdd])
 | ((refine callN_ic (k := 43) Tryz.func43 rfl fnok_43 (by rw [Tryz.ntmps43]; simp) ?_ ?_ (fun K hK => ?_)); (focus (exact True.intro)); (focus ((simp [lsF]; done))); simp only [Tryz.ntmps43, List.map_cons, List.map_nil, List.nil_append, List.cons_append, List.append_nil, LV.tv, argEnv, Nat.zero_add, Nat.reduceAdd])
 | ((refine callN_ic (k := 82) Tryz.func82 rfl fnok_82 (by rw [Tryz.ntmps82]; simp) ?_ ?_ (fun K hK => ?_)); (focus (exact True.intro)); (focus ((simp [lsF]; done))); simp only [Tryz.ntmps82, List.map_cons, List.map_nil, List.nil_append, List.cons_append, List.append_nil, LV.tv, argEnv, Nat.zero_add, Nat.reduceAdd]))
 | ((with_reducible show callGN _ _ _ _ _ _ _ _ _ _); first
 | (refine callGN_q (k := 50) fnok_50 (fun hg => nts_p n N hn hN) ?_ ?_))
 | ((with_reducible show callDN _ _ _ _ _ _ _ _ _ _ _ _ _); first
 | (refine callDN_q (k := 65) fnok_65 (prtF_p (fndS n N (od i)) (corS s n N od i).ch hF) ?_ ?_)
 | (refine callDN_q (k := 63) fnok_63 (has_p (corS s n N od i) _ (sht_ok hvi) hvi) ?_ ?_)
 | (refine callDN_q (k := 32) fnok_32 (Apply_p (corS s n N od i).n (corS s n N od i).f (prtS (fndS n N (od i)) (corS s n N od i).ch).k (prtS (fndS n N (od i)) (corS s n N od i).ch).o hCo.n hCo.f hPk hPo) ?_ ?_)
 | (refine callDN_q (k := 83) fnok_83 (bs_p (corS s n N od i).q (corS s n N od i).dn _ (by omega) (fun i j h1 h2 => rise_all hsq.2.2 j h1 h2)) ?_ ?_))
 | ((with_reducible refine hR3 _ (i + 1) ?_); (try clear hR3 KR))
 | ((with_reducible refine hR2 _ (j + 1) ?_); (try clear hR2 KR))
 | ((with_reducible refine Told.mk ?_); simp only [go_sem, reduceIte, reduceCtorEq, xA, xL, xD, xE, xM, xS, xB, intI, hv, hw, hk2, hil, insH, insC, Nat.le_refl] <;> ((((try simp (disch := omega) only [seaWrap, Int.natCast_add, Int.cast_ofNat_Int, and_true, true_and, and_self]); (repeat' (first | omega | rfl | (with_reducible refine And.intro ?_ ?_) | (exact all_succ (by assumption) (by assumption)) | ((exact Or.inl rfl)) | ((exact all_succ (by assumption) ((stp_b (by assumption)).trans ((Ap_val hvi (fndS_v hw (by assumption))).trans ((ed_ap (by assumption) (by assumption)).trans (ap_0s (by assumption) (by assumption) (mss_fs (by assumption) (by assumption) haj) (by assumption) (by assumption))))))) | ((rw [cor_step rfl (by assumption) (by assumption)])) | ((exact Or.inr ⟨rfl, fun i o hi ho => rowI_dn2 (by omega) ho⟩)))); done))))
 | ((fail_if_success (with_reducible show AW _ _ _ _)); simp (maxSteps := 2000000) only [go_sem, reduceIte, reduceCtorEq, xA, xL, xD, xE, xM, xS, xB, Tryz.f19, Tryz.f57, Tryz.f61, Tryz.f95, Tryz.f43, Tryz.f82, intI, hv, hw, hk2, hil, insH, insC, Nat.le_refl])
 | ((with_reducible refine hK _ ?_); clear hK K)
 | (with_reducible apply_assumption -exfalso only [*]))
  all_goals (first | (have e := cor_err hB (by assumption) hai ((stp_b (by assumption)).trans ((Ap_val hvi (fndS_v hw (by assumption))).trans (ed_12 (by assumption)))) (by decide); rw [e.1, e.2.1, e.2.2]; (repeat' (first | exact rfl | (with_reducible refine And.intro ?_ ?_))); done) | (have e := cor_err hB (by assumption) hai ((stp_b (by assumption)).trans ((Ap_val hvi (fndS_v hw (by assumption))).trans (ed_4 (by assumption) (by assumption)))) (by decide); rw [e.1, e.2.1, e.2.2]; (repeat' (first | exact rfl | (with_reducible refine And.intro ?_ ?_))); done) | (have e := cor_err hB (by assumption) hai ((stp_b (by assumption)).trans ((Ap_val hvi (fndS_v hw (by assumption))).trans ((ed_ap (by assumption) (by assumption)).trans (ap_5 (by assumption))))) (by decide); rw [e.1, e.2.1, e.2.2]; (repeat' (first | exact rfl | (with_reducible refine And.intro ?_ ?_))); done) | (have e := cor_err hB (by assumption) hai ((stp_b (by assumption)).trans ((Ap_val hvi (fndS_v hw (by assumption))).trans ((ed_ap (by assumption) (by assumption)).trans (ap_16s (by assumption) (by assumption) (by assumption) (by assumption))))) (by decide); rw [e.1, e.2.1, e.2.2]; (repeat' (first | exact rfl | (with_reducible refine And.intro ?_ ?_))); done) | (have e := cor_err hB (by assumption) hai ((stp_b (by assumption)).trans ((Ap_val hvi (fndS_v hw (by assumption))).trans ((ed_ap (by assumption) (by assumption)).trans (ap_2 (by assumption) (mss_fs (by assumption) (by assumption) haj) (by assumption))))) (by decide); rw [e.1, e.2.1, e.2.2]; (repeat' (first | exact rfl | (with_reducible refine And.intro ?_ ?_))); done) | (have e := cor_err hB (by assumption) hai ((stp_b (by assumption)).trans ((Ap_val hvi (fndS_v hw (by assumption))).trans ((ed_ap (by assumption) (by assumption)).trans (ap_15s (by assumption) (by assumption) (mss_fs (by assumption) (by assumption) haj) (by assumption) (by assumption))))) (by decide); rw [e.1, e.2.1, e.2.2]; (repeat' (first | exact rfl | (with_reducible refine And.intro ?_ ?_))); done) | (have e := cor_err hB (by assumption) hai (stp_n (by assumption)) (by decide); rw [e.1, e.2.1, e.2.2]; (repeat' (first | exact rfl | (with_reducible refine And.intro ?_ ?_))); done) | (have e := cor_ok hB (by assumption) hai; have e0 : k = i := (by omega); subst e0; rw [e.1, e.2.1, e.2.2]; (repeat' (first | exact rfl | (with_reducible refine And.intro ?_ ?_) | (intro i q hi hq; exact IV.eqv_refl _) | (intro i q hi hq; exact rfl))); done))
theorem cor_f (s : ShtS) (n : Nat) (N : Nat → NotS) (k : Nat) (od : Nat → Int) (hs : s.Ok) (hn : n ≤ 9223372036854775807) (hN : ∀ i, i < n → (N i).Ok) (hk : k ≤ 9223372036854775807) (hB : corB s n N k = false) : CallsP Tryz.prog 19 [(shP s), .one (.lst 7 n (notF N)), .one (.lst 1 k (intI od))] (.tup [(shP (CorS s n N k od)), .one (.g (.int .i64 (CorI s n N k od))), .one (.g (.int .i64 (CorE s n N k od)))]) := by
  refine CallsP_of Tryz.func19 rfl (by rw [Tryz.ntmps19]; simp) ?_
  simp only [shP, Tryz.ntmps19, zM, PT.tv, argEnv, Nat.zero_add, Nat.reduceAdd]
  repeat' (first
 | ((with_reducible show AW _ _ _ _); first
 | (with_reducible first | refine aS (fun K hK => ?_) | refine aI ?_ | refine aT ?_ | refine aC ?_)
 | (first
 | (with_reducible first | refine aP 0 [0,1,2] ?_ | refine aP 1 [1,2,3,6] ?_ | refine aP 2 [6] ?_)))
 | ((first | (with_reducible refine And.intro ?_ ?_) | (with_reducible refine Need.mk ?_)); focus (first | exact True.intro | (intro _; (with_reducible assumption)) | (simp; done)))
 | (with_reducible refine retK_n ?_)
 | ((with_reducible show condN _ _ _ _ _ _); first
 | ((with_reducible refine condN_t ?_ ?_) <;> (intro hc; (try simp only [zB, zC, reduceCtorEq] at hc); (try (exfalso; contradiction)))))
 | ((with_reducible show callN _ _ _ _ _ _ _ _ _ _); first
 | (refine callN_q (k := 34) fnok_34 (sheet_p s hs) ?_ ?_))
 | ((with_reducible show callGN _ _ _ _ _ _ _ _ _ _); first
 | (refine callGN_q (k := 50) fnok_50 (fun hg => nts_p n N hn hN) ?_ ?_))
 | ((fail_if_success (with_reducible show AW _ _ _ _)); simp (maxSteps := 2000000) only [go_sem, reduceIte, reduceCtorEq, xA, xL, xD, xE, xM, xS, xB, Tryz.f19, intI])
 | ((with_reducible refine hK _ ?_); clear hK K))
  all_goals (first | (have e := cor_bad (od := od) hB; rw [e.1, e.2.1, e.2.2]; (repeat' (first | exact rfl | (with_reducible refine And.intro ?_ ?_))); done) | exact (cor_no hB hc).elim)
theorem cor_p (s : ShtS) (n : Nat) (N : Nat → NotS) (k : Nat) (od : Nat → Int) (hs : s.Ok) (hn : n ≤ 9223372036854775807) (hN : ∀ i, i < n → (N i).Ok) (hk : k ≤ 9223372036854775807) : CallsP Tryz.prog 19 [(shP s), .one (.lst 7 n (notF N)), .one (.lst 1 k (intI od))] (.tup [(shP (CorS s n N k od)), .one (.g (.int .i64 (CorI s n N k od))), .one (.g (.int .i64 (CorE s n N k od)))]) := by
  cases hB : corB s n N k with
  | false => exact cor_f s n N k od hs hn hN hk hB
  | true => exact cor_t s n N k od hs hn hN hk hB
end Go.Proofs.YtdhgiklbkmkblaaGreat
set_option maxRecDepth 100000
set_option maxHeartbeats 4000000
namespace Go.Proofs.YtdhgiklbkmkblaaGreat
open Go.RowKit Go.Sea
open Nat renaming reduceAdd → xA, reduceLT → xL, reduceLeDiff → xD, reduceEqDiff → xE, reduceMul → xM, reduceSub → xS, reduceBEq → xB
theorem fnok_35 : fnOk Tryz.prog 35 = true := by kernel_rfl
theorem fnok_51 : fnOk Tryz.prog 51 = true := by kernel_rfl
theorem fnok_93 : fnOk Tryz.prog 93 = true := by kernel_rfl
theorem ty_31 : tyD Tryz.prog 31 = some (false, 1) := by kernel_rfl
theorem zc_24 : zeroC Tryz.prog 24 = some [.iv (.g (.slice none 0 0))] := by kernel_rfl
attribute [go_sem] fnok_35 fnok_51 ty_31 zc_24
def lakP (s : ShtS) (N : Nat → NotS) (i : Nat) : Bool := cncB (N i) s.ch && !hasL s.q s.dn (N i).nu
def lakL (s : ShtS) (N : Nat → NotS) : Nat → List Int
  | 0 => []
  | i + 1 => if lakP s N i = true then lakL s N i ++ [(N i).nu] else lakL s N i
theorem lakL_0 (s : ShtS) (N : Nat → NotS) : lakL s N 0 = [] := rfl
theorem lakL_t {s : ShtS} {N : Nat → NotS} {i : Nat} (h : lakP s N i = true) : lakL s N (i + 1) = lakL s N i ++ [(N i).nu] := by show (if _ then _ else _) = _; rw [if_pos h]
theorem lakL_f {s : ShtS} {N : Nat → NotS} {i : Nat} (h : lakP s N i = false) : lakL s N (i + 1) = lakL s N i := by show (if _ then _ else _) = _; rw [if_neg (by rw [h]; simp)]
theorem lakL_le (s : ShtS) (N : Nat → NotS) : ∀ i, (lakL s N i).length ≤ i
  | 0 => Nat.le_refl _
  | i + 1 => by
    have := lakL_le s N i
    show (if _ then _ else _ : List Int).length ≤ _
    split
    · simp; omega
    · omega
theorem lakP_t {s : ShtS} {N : Nat → NotS} {i : Nat} (h : cncB (N i) s.ch = true) (h2 : hasL s.q s.dn (N i).nu = false) : lakP s N i = true := by unfold lakP; rw [h, h2]; rfl
theorem lakP_f1 {s : ShtS} {N : Nat → NotS} {i : Nat} (h : cncB (N i) s.ch = false) : lakP s N i = false := by unfold lakP; rw [h]; rfl
theorem lakP_f2 {s : ShtS} {N : Nat → NotS} {i : Nat} (h : hasL s.q s.dn (N i).nu = true) : lakP s N i = false := by unfold lakP; rw [h]; simp
theorem cnc_t {N : NotS} {ch : Int} (h : prtB N ch = true ∧ N.kd = 1) : cncB N ch = true := by unfold cncB; rw [h.1]; simp [h.2]
theorem cnc_f {N : NotS} {ch : Int} (h : prtB N ch = false ∨ N.kd ≠ 1) : cncB N ch = false := by
  unfold cncB; rcases h with h | h <;> simp [h]
def zL (l : List Int) (i : Nat) : Int := l.getD i 0
theorem row_zL (l : List Int) : ∀ i o, i < l.length → o < 1 → (civ ((rowI l).getD (i + o) .any)).eqv (.g (.int .i64 (zL l i))) := fun i o hi ho => by
  obtain rfl : o = 0 := by omega
  rw [Nat.add_zero, rowI_get _ _ hi]; exact IV.eqv_refl _
def LK (s : ShtS) (n : Nat) (N : Nat → NotS) : List Int := lakL s N n
def mkB (s : ShtS) (n : Nat) (N : Nat → NotS) : Bool := shtB s && ntsB n N
def NxE (s : ShtS) (n : Nat) (N : Nat → NotS) : Int := if mkB s n N = true then (if (lakL s N n).length = 0 then 4 else 0) else 1
def NxV (s : ShtS) (n : Nat) (N : Nat → NotS) : Int := if mkB s n N = true then (if (lakL s N n).length = 0 then 0 else zL (lakL s N n) 0) else 0
theorem nx_bad {s : ShtS} {n : Nat} {N : Nat → NotS} (h : mkB s n N = false) : NxV s n N = 0 ∧ NxE s n N = 1 := by unfold NxV NxE; rw [h]; exact ⟨rfl, rfl⟩
theorem nx_n {s : ShtS} {n : Nat} {N : Nat → NotS} (h : mkB s n N = true) (h0 : (lakL s N n).length = 0) : NxV s n N = 0 ∧ NxE s n N = 4 := by unfold NxV NxE; rw [if_pos h, if_pos h, if_pos h0, if_pos h0]; exact ⟨rfl, rfl⟩
theorem nx_t {s : ShtS} {n : Nat} {N : Nat → NotS} (h : mkB s n N = true) (h0 : (lakL s N n).length ≠ 0) : NxV s n N = zL (lakL s N n) 0 ∧ NxE s n N = 0 := by unfold NxV NxE; rw [if_pos h, if_pos h, if_neg h0, if_neg h0]; exact ⟨rfl, rfl⟩
theorem mk_no {s : ShtS} {n : Nat} {N : Nat → NotS} (h : mkB s n N = false) (hc : shtB s = true ∧ ntsB n N = true) : False := by unfold mkB at h; rw [hc.1, hc.2] at h; cases h
def upL (N : Nat → NotS) (mst : Int) : Nat → Int
  | 0 => 0
  | i + 1 => if (N i).nu < mst then (N i).nu else upL N mst i
theorem upL_t {N : Nat → NotS} {mst : Int} {i : Nat} (h : (N i).nu < mst) : upL N mst (i + 1) = (N i).nu := by show (if _ then _ else _) = _; rw [if_pos h]
theorem upL_f {N : Nat → NotS} {mst : Int} {i : Nat} (h : mst ≤ (N i).nu) : upL N mst (i + 1) = upL N mst i := by show (if _ then _ else _) = _; rw [if_neg (by omega)]
def mstI (l : List Int) : Int := if l.length = 0 then 10001 else zL l 0
def UpE (s : ShtS) (n : Nat) (N : Nat → NotS) : Int := if mkB s n N = true then 0 else 1
def UpV (s : ShtS) (n : Nat) (N : Nat → NotS) : Int := if mkB s n N = true then upL N (mstI (lakL s N n)) n else 0
theorem up_bad {s : ShtS} {n : Nat} {N : Nat → NotS} (h : mkB s n N = false) : UpV s n N = 0 ∧ UpE s n N = 1 := by unfold UpV UpE; rw [h]; exact ⟨rfl, rfl⟩
theorem up_t {s : ShtS} {n : Nat} {N : Nat → NotS} (h : mkB s n N = true) : UpV s n N = upL N (mstI (lakL s N n)) n ∧ UpE s n N = 0 := by unfold UpV UpE; rw [if_pos h, if_pos h]; exact ⟨rfl, rfl⟩
theorem mst_n {l : List Int} (h : l.length = 0) : mstI l = 10001 := by unfold mstI; rw [if_pos h]
theorem mst_t {l : List Int} (h : l.length ≠ 0) : mstI l = zL l 0 := by unfold mstI; rw [if_neg h]
theorem lak_p (s : ShtS) (n : Nat) (N : Nat → NotS) (hs : s.Ok) (hn : n ≤ 9223372036854775807) (hN : ∀ i, i < n → (N i).Ok) (hv : shtB s = true) (hn2 : n ≤ 1000000) : CallsP Tryz.prog 59 [(shP s), .one (.lst 7 n (notF N))] (.t (.one (.lst 1 (lakL s N n).length (intI (zL (lakL s N n)))))) := by
  refine CallsP_of Tryz.func59 rfl (by rw [Tryz.ntmps59]; simp) ?_
  simp only [shP, Tryz.ntmps59, zM, PT.tv, argEnv, Nat.zero_add, Nat.reduceAdd]
  repeat' (first
 | ((refine callGK_s ?_ ?_) <;> (intro hc; (try rw [hc]); (try simp only [zB, zC, reduceCtorEq] at hc); (try (exfalso; contradiction))))
 | ((with_reducible show AW _ _ _ _); first
 | (with_reducible first | refine aS (fun K hK => ?_) | refine aI ?_ | refine aX ?_ | refine aT ?_ | refine aC ?_ | refine aB ?_)
 | ((refine AW_rangeFuncH (k := 93) rfl Tryz.func93 rfl fnok_93 (by rw [Tryz.ntmps93]; simp) ?_ ?_ (fun l hlne A B hA hB => ?_)); (focus (simp (maxSteps := 2000000) only [go_sem, reduceIte, reduceCtorEq, xA, xL, xD, xE, xM, xS, xB, Tryz.f59, Tryz.f93, Tryz.f51, intI, rowI_pur, rowI_snoc, rowI_len, maxLen, lakL_0, List.length_append, List.length_cons, List.length_nil]; try exact True.intro)); (focus (simp (maxSteps := 2000000) only [go_sem, reduceIte, reduceCtorEq, xA, xL, xD, xE, xM, xS, xB, Tryz.f59, Tryz.f93, Tryz.f51, intI, rowI_pur, rowI_snoc, rowI_len, maxLen, lakL_0, List.length_append, List.length_cons, List.length_nil]; try exact True.intro)); simp only [Tryz.ntmps93, List.map_cons, List.map_nil, LV.tv, argEnv, yV, Nat.zero_add, Nat.reduceAdd]; clear hlne)
 | (with_reducible refine AW_eq (by assumption) ?_)
 | (first
 | (with_reducible first | refine aP (ops := #[⟨some 2, _, _, _, _, _⟩, _]) 0 [0,1,12] ?_ | refine aP (ops := #[⟨some 8, _, _, _, _, _⟩, _, _]) 0 [0,1,2] ?_ | refine aP (ops := #[⟨some 2, _, _, _, _, _⟩, _, _]) 0 [0,1] ?_ | refine aP (ops := #[⟨some 5, _, _, _, _, _⟩]) 1 [1,2,12] ?_ | refine aP (ops := #[⟨some 11, _, _, _, _, _⟩]) 1 [0,2,8,9,10] ?_ | refine aP (ops := #[⟨some 5, _, _, _, _, _⟩, _]) 1 [2,3] ?_ | refine aP (ops := #[⟨some 7, _, _, _, _, _⟩, _, _, _, _]) 2 [1,2,5,12] ?_ | refine aP (ops := #[⟨some 12, _, _, _, _, _⟩, _, _, _]) 2 [0,2,8,9,10] ?_ | refine aP (ops := #[⟨some 6, _, _, _, _, _⟩, _]) 3 [2,5,12] ?_ | refine aP (ops := #[⟨some 15, _, _, _, _, _⟩, _, _, _, _, _, _, _, _]) 3 [0,2,5,8,9,10] ?_ | refine aP (ops := #[⟨some 14, _, _, _, _, _⟩, _, _, _, _]) 4 [2,5,6,12] ?_ | refine aP (ops := #[⟨some 20, _, _, _, _, _⟩, _, _, _, _, _, _, _, _, _, _, _, _]) 4 [0,2,5,6,7,8,9,10] ?_ | refine aP (ops := #[⟨some 19, _, _, _, _, _⟩, _, _, _, _, _]) 5 [2,5,6,12] ?_ | refine aP (ops := #[⟨some 33, _, _, _, _, _⟩, _]) 5 [0,2,8,9,10] ?_ | refine aP 6 [5] ?_))
 | ((with_reducible show AW _ (Code.loop _) _ _); first
 | ((with_reducible refine aL (c := (Code.seq (Code.region 1 _ _) _)) (ι := Nat) [0,2,8,9] (fun i => [(10, iA .i64 (i : Int))]) (fun i => [(1, [.slc 8 0 (lakL s N i).length 1]), (8, rowI (lakL s N i))]) (fun i => i ≤ n) (fun i => n - i) 0 ?lg1 ?l11 ?l21 ?li1 ?lr1); (case' lg1 => rintro i _); (case' li1 => try (omega)); (case' lr1 => rintro i hi KR hR1; have oL := lakL_le s N i; simp only [keepE, hupd, hset, lk, if_true, if_false, xE, reduceIte, zN, rowI_pur, rowI_snoc, rowI_len, maxLen, lakL_0, List.length_append, List.length_cons, List.length_nil]))))
 | ((first | (with_reducible refine And.intro ?_ ?_) | (with_reducible refine Need.mk ?_)); focus (first | exact True.intro | omega))
 | (with_reducible refine retK_n ?_)
 | ((with_reducible show condN _ _ _ _ _ _); first
 | ((with_reducible refine condN_t ?_ ?_) <;> (intro hc; (try simp only [zB, zC, reduceCtorEq] at hc); ((try (have hNi := (hN i (by omega)).n)); (try (have e0 : n = i := (by omega); subst e0))); (try (exfalso; contradiction)))))
 | ((with_reducible show callN _ _ _ _ _ _ _ _ _ _); first
 | (refine callN_q (k := 65) fnok_65 (prtF_p (N i) s.ch (hN i (by omega))) ?_ ?_)
 | (refine callN_q (k := 63) fnok_63 (has_p s _ hs hv) ?_ ?_)
 | ((refine callN_i (k := 51) Tryz.func51 rfl fnok_51 (by rw [Tryz.ntmps51]; simp) ?_ ?_ (fun K hK => ?_)); (focus (exact True.intro)); (focus ((simp [lsF]; done))); simp only [Tryz.ntmps51, List.map_cons, List.map_nil, List.nil_append, List.cons_append, List.append_nil, LV.tv, argEnv, Nat.zero_add, Nat.reduceAdd]))
 | ((with_reducible refine hR1 _ (i + 1) ?_); (try clear hR1 KR))
 | ((with_reducible refine Told.mk ?_); simp only [go_sem, reduceIte, reduceCtorEq, xA, xL, xD, xE, xM, xS, xB, intI, rowI_pur, rowI_snoc, rowI_len, maxLen, lakL_0, List.length_append, List.length_cons, List.length_nil] <;> ((((try simp (disch := omega) only [seaWrap, Int.natCast_add, Int.cast_ofNat_Int, and_true, true_and, and_self]); (repeat' (first | omega | rfl | (with_reducible refine And.intro ?_ ?_) | ((first | rw [lakL_f (lakP_f1 (cnc_f (by assumption)))] | rw [lakL_t (lakP_t (cnc_t (by assumption)) (by assumption))] | rw [lakL_f (lakP_f2 (by assumption))])) | ((exact wkC_eq rfl (rowI_iv _))) | ((simp only [List.length_append, List.length_cons, List.length_nil, Nat.zero_add]; done)))); done))))
 | ((fail_if_success (with_reducible show AW _ _ _ _)); simp (maxSteps := 2000000) only [go_sem, reduceIte, reduceCtorEq, xA, xL, xD, xE, xM, xS, xB, Tryz.f59, Tryz.f93, Tryz.f51, intI, rowI_pur, rowI_snoc, rowI_len, maxLen, lakL_0, List.length_append, List.length_cons, List.length_nil])
 | ((with_reducible show callN _ _ _ _ _ _ (.yld _) _ _ _); (refine callN_y (by simp only [lkL, if_true]; exact rfl) ?_ (by simp) ?_ ?_ (fun K hK => ?_)); (focus (exact True.intro)); (focus (simp [ltAll])); (focus ((simp [lsF]; done))); simp only [zipPut, gf, if_true, Nat.reduceAdd])
 | ((with_reducible refine hK _ ?_); clear hK K)
 | (with_reducible apply_assumption -exfalso only [*]))
  all_goals ((exact ⟨fun c hc9 => (by have := rowI_iv _ c hc9; cases c <;> trivial), fun i o hi ho => row_zL _ i o hi ho⟩))
end Go.Proofs.YtdhgiklbkmkblaaGreat
set_option maxRecDepth 100000
set_option maxHeartbeats 4000000
namespace Go.Proofs.YtdhgiklbkmkblaaGreat
open Go.RowKit Go.Sea
open Nat renaming reduceAdd → xA, reduceLT → xL, reduceLeDiff → xD, reduceEqDiff → xE, reduceMul → xM, reduceSub → xS, reduceBEq → xB
theorem fnok_59 : fnOk Tryz.prog 59 = true := by kernel_rfl
theorem fnok_60 : fnOk Tryz.prog 60 = true := by kernel_rfl
attribute [go_sem] fnok_59 fnok_60
def mkF (S : ShtS) (e : Int) : ShtS := if e = 0 then { S with ed := S.ed + 1 } else sht0
def MkE (s : ShtS) (n : Nat) (N : Nat → NotS) : Int := if mkB s n N = true then (if 1000 ≤ s.ed then 3 else CorE s n N (lakL s N n).length (zL (lakL s N n))) else 1
def MkS (s : ShtS) (n : Nat) (N : Nat → NotS) : ShtS := if mkB s n N = true then (if 1000 ≤ s.ed then sht0 else mkF (CorS s n N (lakL s N n).length (zL (lakL s N n))) (CorE s n N (lakL s N n).length (zL (lakL s N n)))) else sht0
theorem mk_bad {s : ShtS} {n : Nat} {N : Nat → NotS} (h : mkB s n N = false) : MkS s n N = sht0 ∧ MkE s n N = 1 := by unfold MkS MkE; rw [h]; exact ⟨rfl, rfl⟩
theorem mk_3 {s : ShtS} {n : Nat} {N : Nat → NotS} (h : mkB s n N = true) (h0 : s.ed ≥ 1000) : MkS s n N = sht0 ∧ MkE s n N = 3 := by unfold MkS MkE; rw [if_pos h, if_pos h, if_pos (by omega), if_pos (by omega)]; exact ⟨rfl, rfl⟩
theorem mk_t {s : ShtS} {n : Nat} {N : Nat → NotS} (h : mkB s n N = true) (h0 : s.ed < 1000) : MkS s n N = mkF (CorS s n N (lakL s N n).length (zL (lakL s N n))) (CorE s n N (lakL s N n).length (zL (lakL s N n))) ∧ MkE s n N = CorE s n N (lakL s N n).length (zL (lakL s N n)) := by unfold MkS MkE; rw [if_pos h, if_pos h, if_neg (by omega), if_neg (by omega)]; exact ⟨rfl, rfl⟩
theorem mk_spl {s : ShtS} {n : Nat} {N : Nat → NotS} (h : mkB s n N = true) : shtB s = true ∧ ntsB n N = true ∧ n ≤ 200 := by
  unfold mkB at h; simp only [Bool.and_eq_true] at h; exact ⟨h.1, h.2, (nts_n h.2).1⟩
theorem sht_ed {s : ShtS} (h : shtB s = true) : 1 ≤ s.ed ∧ s.ed ≤ 1000 ∧ 1 ≤ s.ch ∧ s.ch ≤ 1000 := by
  unfold shtB at h; simp only [Bool.and_eq_true, decide_eq_true_eq] at h; omega
theorem mk_cor {s : ShtS} {n : Nat} {N : Nat → NotS} (h : mkB s n N = true) : corB s n N (lakL s N n).length = true := by
  have h1 := mk_spl h
  have h2 := lakL_le s N n
  unfold corB; rw [h1.1, h1.2.1]; simp; omega
theorem corS_ed (s : ShtS) (n : Nat) (N : Nat → NotS) (od : Nat → Int) : ∀ i, (corS s n N od i).ed = s.ed ∧ (corS s n N od i).ch = s.ch
  | 0 => ⟨rfl, rfl⟩
  | i + 1 => corS_ed s n N od i
theorem cor0 {s : ShtS} {n : Nat} {N : Nat → NotS} {k : Nat} {od : Nat → Int} (h : CorE s n N k od = 0) : CorS s n N k od = corS s n N od k ∧ corB s n N k = true ∧ ∀ j, j < k → stpE (corS s n N od j) n N (od j) = 0 := by
  unfold CorE at h
  split at h
  · rename_i hB
    split at h
    · rename_i hj
      exfalso
      exact of_decide_eq_true ((fstB_all (b := fun i => decide (stpE (corS s n N od i) n N (od i) ≠ 0)) (k := k)).2 hj) h
    · rename_i hj
      refine ⟨by unfold CorS; rw [if_pos hB, if_neg hj], hB, fun j hjk => ?_⟩
      have hf := fstB_le (fun i => decide (stpE (corS s n N od i) n N (od i) ≠ 0)) k
      have he : corJ s n N k od = k := by unfold corJ at hj ⊢; omega
      have := (fstB_all (b := fun i => decide (stpE (corS s n N od i) n N (od i) ≠ 0)) (k := k)).1 j (by unfold corJ at he; omega)
      have := of_decide_eq_false this
      simpa using this
  · cases h
theorem mkF_0 {S : ShtS} {e : Int} (h : e = 0) : mkF S e = { S with ed := S.ed + 1 } := by unfold mkF; rw [if_pos h]
theorem mkF_e {S : ShtS} {e : Int} (h : e ≠ 0) : mkF S e = sht0 := by unfold mkF; rw [if_neg h]
theorem nu_lt {n : Nat} {N : Nat → NotS} (h : ntsB n N = true) {i : Nat} (hi : i < n) : (N i).nu < 10001 := by
  have := not_nu ((nts_n h).2 i hi).1; omega
theorem nx_f (s : ShtS) (n : Nat) (N : Nat → NotS) (hs : s.Ok) (hn : n ≤ 9223372036854775807) (hN : ∀ i, i < n → (N i).Ok) (hB : mkB s n N = false) : CallsP Tryz.prog 25 [(shP s), .one (.lst 7 n (notF N))] (.tup [.one (.g (.int .i64 (NxV s n N))), .one (.g (.int .i64 (NxE s n N)))]) := by
  refine CallsP_of Tryz.func25 rfl (by rw [Tryz.ntmps25]; simp) ?_
  simp only [shP, Tryz.ntmps25, zM, PT.tv, argEnv, Nat.zero_add, Nat.reduceAdd]
  repeat' (first
 | ((with_reducible show AW _ _ _ _); first
 | (with_reducible first | refine aS (fun K hK => ?_) | refine aI ?_ | refine aT ?_ | refine aC ?_)
 | (first
 | (with_reducible first | refine aP 0 [0,1] ?_ | refine aP 1 [1,2] ?_ | refine aP 2 [] ?_)))
 | ((first | (with_reducible refine And.intro ?_ ?_) | (with_reducible refine Need.mk ?_)); focus (first | exact True.intro | (intro _; (with_reducible assumption)) | (simp; done)))
 | (with_reducible refine retK_n ?_)
 | ((with_reducible show condN _ _ _ _ _ _); first
 | ((with_reducible refine condN_t ?_ ?_) <;> (intro hc; (try simp only [zB, zC, reduceCtorEq] at hc); (try (exfalso; contradiction)))))
 | ((with_reducible show callN _ _ _ _ _ _ _ _ _ _); first
 | (refine callN_q (k := 34) fnok_34 (sheet_p s hs) ?_ ?_))
 | ((with_reducible show callGN _ _ _ _ _ _ _ _ _ _); first
 | (refine callGN_q (k := 50) fnok_50 (fun hg => nts_p n N hn hN) ?_ ?_))
 | ((fail_if_success (with_reducible show AW _ _ _ _)); simp (maxSteps := 2000000) only [go_sem, reduceIte, reduceCtorEq, xA, xL, xD, xE, xM, xS, xB, Tryz.f25, intI])
 | ((with_reducible refine hK _ ?_); clear hK K))
  all_goals (first | (have e := nx_bad hB; rw [e.1, e.2]; (repeat' (first | exact rfl | (with_reducible refine And.intro ?_ ?_))); done) | exact (mk_no hB hc).elim)
theorem nx_v (s : ShtS) (n : Nat) (N : Nat → NotS) (hs : s.Ok) (hn : n ≤ 9223372036854775807) (hN : ∀ i, i < n → (N i).Ok) (hB : mkB s n N = true) : CallsP Tryz.prog 25 [(shP s), .one (.lst 7 n (notF N))] (.tup [.one (.g (.int .i64 (NxV s n N))), .one (.g (.int .i64 (NxE s n N)))]) := by
  have h3 := mk_spl hB
  have hv := h3.1
  have hw := h3.2.1
  have hn2 := h3.2.2
  have hle := lakL_le s N n
  refine CallsP_of Tryz.func25 rfl (by rw [Tryz.ntmps25]; simp) ?_
  simp only [shP, Tryz.ntmps25, zM, PT.tv, argEnv, Nat.zero_add, Nat.reduceAdd]
  repeat' (first
 | ((with_reducible show AW _ _ _ _); first
 | (with_reducible first | refine aS (fun K hK => ?_) | refine aI ?_ | refine aT ?_ | refine aC ?_)
 | (first
 | (with_reducible first | refine aP 0 [0,1] ?_ | refine aP 1 [1,2] ?_ | refine aP 3 [1,2] ?_ | refine aP 4 [6] ?_ | refine aP 5 [] ?_ | refine aP 6 [6] ?_)))
 | ((first | (with_reducible refine And.intro ?_ ?_) | (with_reducible refine Need.mk ?_)); focus (first | exact True.intro | omega | (intro _; exact True.intro)))
 | (with_reducible refine retK_n ?_)
 | ((with_reducible show condN _ _ _ _ _ _); first
 | ((with_reducible refine condN_t ?_ ?_) <;> (intro hc; (try simp only [zB, zC, reduceCtorEq] at hc); (try (exfalso; contradiction)))))
 | ((with_reducible show callN _ _ _ _ _ _ _ _ _ _); first
 | (refine callN_q (k := 34) fnok_34 (sheet_p s hs) ?_ ?_)
 | (refine callN_q (k := 59) fnok_59 (lak_p s n N hs hn hN hv (by omega)) ?_ ?_))
 | ((with_reducible show callGN _ _ _ _ _ _ _ _ _ _); first
 | (refine callGN_q (k := 50) fnok_50 (fun hg => nts_p n N hn hN) ?_ ?_))
 | ((fail_if_success (with_reducible show AW _ _ _ _)); simp (maxSteps := 2000000) only [go_sem, reduceIte, reduceCtorEq, xA, xL, xD, xE, xM, xS, xB, Tryz.f25, intI, hv, hw])
 | ((with_reducible refine hK _ ?_); clear hK K))
  all_goals (first | (have e := nx_n hB (by omega); rw [e.1, e.2]; (repeat' (first | exact rfl | (with_reducible refine And.intro ?_ ?_))); done) | (have e := nx_t hB (by omega); rw [e.1, e.2]; (repeat' (first | exact rfl | (with_reducible refine And.intro ?_ ?_))); done))
theorem nx_p (s : ShtS) (n : Nat) (N : Nat → NotS) (hs : s.Ok) (hn : n ≤ 9223372036854775807) (hN : ∀ i, i < n → (N i).Ok) : CallsP Tryz.prog 25 [(shP s), .one (.lst 7 n (notF N))] (.tup [.one (.g (.int .i64 (NxV s n N))), .one (.g (.int .i64 (NxE s n N)))]) := by
  cases hB : mkB s n N with
  | false => exact nx_f s n N hs hn hN hB
  | true => exact nx_v s n N hs hn hN hB
theorem up_f (s : ShtS) (n : Nat) (N : Nat → NotS) (hs : s.Ok) (hn : n ≤ 9223372036854775807) (hN : ∀ i, i < n → (N i).Ok) (hB : mkB s n N = false) : CallsP Tryz.prog 23 [(shP s), .one (.lst 7 n (notF N))] (.tup [.one (.g (.int .i64 (UpV s n N))), .one (.g (.int .i64 (UpE s n N)))]) := by
  refine CallsP_of Tryz.func23 rfl (by rw [Tryz.ntmps23]; simp) ?_
  simp only [shP, Tryz.ntmps23, zM, PT.tv, argEnv, Nat.zero_add, Nat.reduceAdd]
  repeat' (first
 | ((with_reducible show AW _ _ _ _); first
 | (with_reducible first | refine aS (fun K hK => ?_) | refine aI ?_ | refine aT ?_ | refine aC ?_)
 | (first
 | (with_reducible first | refine aP 0 [0,1] ?_ | refine aP 1 [1,2] ?_ | refine aP 2 [] ?_)))
 | ((first | (with_reducible refine And.intro ?_ ?_) | (with_reducible refine Need.mk ?_)); focus (first | exact True.intro | (intro _; (with_reducible assumption)) | (simp; done)))
 | (with_reducible refine retK_n ?_)
 | ((with_reducible show condN _ _ _ _ _ _); first
 | ((with_reducible refine condN_t ?_ ?_) <;> (intro hc; (try simp only [zB, zC, reduceCtorEq] at hc); (try (exfalso; contradiction)))))
 | ((with_reducible show callN _ _ _ _ _ _ _ _ _ _); first
 | (refine callN_q (k := 34) fnok_34 (sheet_p s hs) ?_ ?_))
 | ((with_reducible show callGN _ _ _ _ _ _ _ _ _ _); first
 | (refine callGN_q (k := 50) fnok_50 (fun hg => nts_p n N hn hN) ?_ ?_))
 | ((fail_if_success (with_reducible show AW _ _ _ _)); simp (maxSteps := 2000000) only [go_sem, reduceIte, reduceCtorEq, xA, xL, xD, xE, xM, xS, xB, Tryz.f23, intI])
 | ((with_reducible refine hK _ ?_); clear hK K))
  all_goals (first | (have e := up_bad hB; rw [e.1, e.2]; (repeat' (first | exact rfl | (with_reducible refine And.intro ?_ ?_))); done) | exact (mk_no hB hc).elim)
theorem up_n (s : ShtS) (n : Nat) (N : Nat → NotS) (hs : s.Ok) (hn : n ≤ 9223372036854775807) (hN : ∀ i, i < n → (N i).Ok) (hB : mkB s n N = true) (h0 : (lakL s N n).length = 0) : CallsP Tryz.prog 23 [(shP s), .one (.lst 7 n (notF N))] (.tup [.one (.g (.int .i64 (UpV s n N))), .one (.g (.int .i64 (UpE s n N)))]) := by
  have h3 := mk_spl hB
  have hv := h3.1
  have hw := h3.2.1
  have hn2 := h3.2.2
  have hle := lakL_le s N n
  have hlt : (((lakL s N n).length : Int) > 0) = False := eq_false (by omega)
  have hms := mst_n h0
  refine CallsP_of Tryz.func23 rfl (by rw [Tryz.ntmps23]; simp) ?_
  simp only [shP, Tryz.ntmps23, zM, PT.tv, argEnv, Nat.zero_add, Nat.reduceAdd]
  repeat' (first
 | ((with_reducible show AW _ _ _ _); first
 | (with_reducible first | refine aS (fun K hK => ?_) | refine aI ?_ | refine aX ?_ | refine aT ?_ | refine aC ?_ | refine aB ?_)
 | (first
 | (with_reducible first | refine aP 0 [0,1] ?_ | refine aP 1 [1,2] ?_ | refine aP 3 [1,2] ?_ | refine aP 4 [1,2,6] ?_ | refine aP 5 [1,6,7] ?_ | refine aP 7 [1,6] ?_ | refine aP 8 [1,6,8] ?_ | refine aP 9 [6,8,29,30,31] ?_ | refine aP 10 [6,8,29,30,31] ?_ | refine aP 11 [6,8,10,29,30,31] ?_ | refine aP 12 [6,10,29,30,31] ?_ | refine aP 13 [6,8,29,30,31] ?_ | refine aP 14 [8] ?_))
 | ((with_reducible show AW _ (Code.loop _) _ _); first
 | ((with_reducible refine aL (c := (Code.seq (Code.region 9 _ _) _)) (ι := Nat) [6,29,30] (fun i => [(8, iA .i64 (upL N (mstI (lakL s N n)) i)), (31, iA .i64 (i : Int))]) (fun i => []) (fun i => i ≤ n) (fun i => n - i) 0 ?lg9 ?l19 ?l29 ?li9 ?lr9); (case' lg9 => rintro i _); (case' li9 => try (omega)); (case' lr9 => rintro i hi KR hR9; simp only [keepE, hupd, hset, lk, if_true, if_false, xE, reduceIte, zN, hv, hw, hlt]))))
 | ((first | (with_reducible refine And.intro ?_ ?_) | (with_reducible refine Need.mk ?_)); focus (first | exact True.intro | omega | (intro _; exact True.intro)))
 | (with_reducible refine retK_n ?_)
 | ((with_reducible show condN _ _ _ _ _ _); first
 | ((with_reducible refine condN_t ?_ ?_) <;> (intro hc; (try simp only [zB, zC, reduceCtorEq] at hc); (try (exfalso; contradiction)))))
 | ((with_reducible show callN _ _ _ _ _ _ _ _ _ _); first
 | (refine callN_q (k := 34) fnok_34 (sheet_p s hs) ?_ ?_)
 | (refine callN_q (k := 59) fnok_59 (lak_p s n N hs hn hN hv (by omega)) ?_ ?_))
 | ((with_reducible show callGN _ _ _ _ _ _ _ _ _ _); first
 | (refine callGN_q (k := 50) fnok_50 (fun hg => nts_p n N hn hN) ?_ ?_))
 | ((with_reducible refine hR9 _ (i + 1) ?_); (try clear hR9 KR))
 | ((with_reducible refine Told.mk ?_); simp only [go_sem, reduceIte, reduceCtorEq, xA, xL, xD, xE, xM, xS, xB, intI, hv, hw, hlt] <;> ((((try simp (disch := omega) only [seaWrap, Int.natCast_add, Int.cast_ofNat_Int, and_true, true_and, and_self]); (repeat' (first | omega | rfl | (with_reducible refine And.intro ?_ ?_) | ((first | (rw [upL_t (by rw [hms]; omega)]) | (rw [upL_f (by rw [hms]; omega)]))))); done))))
 | ((fail_if_success (with_reducible show AW _ _ _ _)); simp (maxSteps := 2000000) only [go_sem, reduceIte, reduceCtorEq, xA, xL, xD, xE, xM, xS, xB, Tryz.f23, intI, hv, hw, hlt])
 | ((with_reducible refine hK _ ?_); clear hK K)
 | (with_reducible apply_assumption -exfalso only [*]))
  all_goals ((have e := up_t hB; rw [e.1, e.2]; have e0 : n = i := (by omega); subst e0; (repeat' (first | exact rfl | (with_reducible refine And.intro ?_ ?_))); done))
theorem up_t_ (s : ShtS) (n : Nat) (N : Nat → NotS) (hs : s.Ok) (hn : n ≤ 9223372036854775807) (hN : ∀ i, i < n → (N i).Ok) (hB : mkB s n N = true) (h0 : (lakL s N n).length ≠ 0) : CallsP Tryz.prog 23 [(shP s), .one (.lst 7 n (notF N))] (.tup [.one (.g (.int .i64 (UpV s n N))), .one (.g (.int .i64 (UpE s n N)))]) := by
  have h3 := mk_spl hB
  have hv := h3.1
  have hw := h3.2.1
  have hn2 := h3.2.2
  have hle := lakL_le s N n
  have hlt : (((lakL s N n).length : Int) > 0) = True := eq_true (by omega)
  have hms := mst_t h0
  refine CallsP_of Tryz.func23 rfl (by rw [Tryz.ntmps23]; simp) ?_
  simp only [shP, Tryz.ntmps23, zM, PT.tv, argEnv, Nat.zero_add, Nat.reduceAdd]
  repeat' (first
 | ((with_reducible show AW _ _ _ _); first
 | (with_reducible first | refine aS (fun K hK => ?_) | refine aI ?_ | refine aX ?_ | refine aT ?_ | refine aC ?_ | refine aB ?_)
 | (first
 | (with_reducible first | refine aP 0 [0,1] ?_ | refine aP 1 [1,2] ?_ | refine aP 3 [1,2] ?_ | refine aP 4 [1,2,6] ?_ | refine aP 5 [1,6,7] ?_ | refine aP 6 [1,7] ?_ | refine aP 7 [1,6] ?_ | refine aP 8 [1,6,8] ?_ | refine aP 9 [6,8,29,30,31] ?_ | refine aP 10 [6,8,29,30,31] ?_ | refine aP 11 [6,8,10,29,30,31] ?_ | refine aP 12 [6,10,29,30,31] ?_ | refine aP 13 [6,8,29,30,31] ?_ | refine aP 14 [8] ?_))
 | ((with_reducible show AW _ (Code.loop _) _ _); first
 | ((with_reducible refine aL (c := (Code.seq (Code.region 9 _ _) _)) (ι := Nat) [6,29,30] (fun i => [(8, iA .i64 (upL N (mstI (lakL s N n)) i)), (31, iA .i64 (i : Int))]) (fun i => []) (fun i => i ≤ n) (fun i => n - i) 0 ?lg9 ?l19 ?l29 ?li9 ?lr9); (case' lg9 => rintro i _); (case' li9 => try (omega)); (case' lr9 => rintro i hi KR hR9; simp only [keepE, hupd, hset, lk, if_true, if_false, xE, reduceIte, zN, hv, hw, hlt]))))
 | ((first | (with_reducible refine And.intro ?_ ?_) | (with_reducible refine Need.mk ?_)); focus (first | exact True.intro | omega | (intro _; exact True.intro)))
 | (with_reducible refine retK_n ?_)
 | ((with_reducible show condN _ _ _ _ _ _); first
 | ((with_reducible refine condN_t ?_ ?_) <;> (intro hc; (try simp only [zB, zC, reduceCtorEq] at hc); (try (exfalso; contradiction)))))
 | ((with_reducible show callN _ _ _ _ _ _ _ _ _ _); first
 | (refine callN_q (k := 34) fnok_34 (sheet_p s hs) ?_ ?_)
 | (refine callN_q (k := 59) fnok_59 (lak_p s n N hs hn hN hv (by omega)) ?_ ?_))
 | ((with_reducible show callGN _ _ _ _ _ _ _ _ _ _); first
 | (refine callGN_q (k := 50) fnok_50 (fun hg => nts_p n N hn hN) ?_ ?_))
 | ((with_reducible refine hR9 _ (i + 1) ?_); (try clear hR9 KR))
 | ((with_reducible refine Told.mk ?_); simp only [go_sem, reduceIte, reduceCtorEq, xA, xL, xD, xE, xM, xS, xB, intI, hv, hw, hlt] <;> ((((try simp (disch := omega) only [seaWrap, Int.natCast_add, Int.cast_ofNat_Int, and_true, true_and, and_self]); (repeat' (first | omega | rfl | (with_reducible refine And.intro ?_ ?_) | ((first | (rw [upL_t (by rw [hms]; omega)]) | (rw [upL_f (by rw [hms]; omega)]))))); done))))
 | ((fail_if_success (with_reducible show AW _ _ _ _)); simp (maxSteps := 2000000) only [go_sem, reduceIte, reduceCtorEq, xA, xL, xD, xE, xM, xS, xB, Tryz.f23, intI, hv, hw, hlt])
 | ((with_reducible refine hK _ ?_); clear hK K)
 | (with_reducible apply_assumption -exfalso only [*]))
  all_goals ((have e := up_t hB; rw [e.1, e.2]; have e0 : n = i := (by omega); subst e0; (repeat' (first | exact rfl | (with_reducible refine And.intro ?_ ?_))); done))
theorem up_p (s : ShtS) (n : Nat) (N : Nat → NotS) (hs : s.Ok) (hn : n ≤ 9223372036854775807) (hN : ∀ i, i < n → (N i).Ok) : CallsP Tryz.prog 23 [(shP s), .one (.lst 7 n (notF N))] (.tup [.one (.g (.int .i64 (UpV s n N))), .one (.g (.int .i64 (UpE s n N)))]) := by
  cases hB : mkB s n N with
  | false => exact up_f s n N hs hn hN hB
  | true =>
    by_cases h0 : (lakL s N n).length = 0
    · exact up_n s n N hs hn hN hB h0
    · exact up_t_ s n N hs hn hN hB h0
end Go.Proofs.YtdhgiklbkmkblaaGreat
set_option maxRecDepth 100000
set_option maxHeartbeats 4000000
namespace Go.Proofs.YtdhgiklbkmkblaaGreat
open Go.RowKit Go.Sea
open Nat renaming reduceAdd → xA, reduceLT → xL, reduceLeDiff → xD, reduceEqDiff → xE, reduceMul → xM, reduceSub → xS, reduceBEq → xB
theorem fnok_20 : fnOk Tryz.prog 20 = true := by kernel_rfl
attribute [go_sem] fnok_20
theorem corS_bd {s : ShtS} {n : Nat} {N : Nat → NotS} {od : Nat → Int} (hv : shtB s = true) (k : Nat) : 0 ≤ (corS s n N od k).ed ∧ (corS s n N od k).ed ≤ 1000 := by
  have h := sht_ed hv
  rw [(corS_ed s n N od k).1]; omega
theorem mk_f (s : ShtS) (n : Nat) (N : Nat → NotS) (hs : s.Ok) (hn : n ≤ 9223372036854775807) (hN : ∀ i, i < n → (N i).Ok) (hB : mkB s n N = false) : CallsP Tryz.prog 21 [(shP s), .one (.lst 7 n (notF N))] (.tup [(shP (MkS s n N)), .one (.g (.int .i64 (MkE s n N)))]) := by
  refine CallsP_of Tryz.func21 rfl (by rw [Tryz.ntmps21]; simp) ?_
  simp only [shP, Tryz.ntmps21, zM, PT.tv, argEnv, Nat.zero_add, Nat.reduceAdd]
  repeat' (first
 | ((with_reducible show AW _ _ _ _); first
 | (with_reducible first | refine aS (fun K hK => ?_) | refine aT ?_ | refine aC ?_ | refine aB ?_)
 | (first
 | (with_reducible first | refine aP 0 [0,1] ?_ | refine aP 1 [1,2,4] ?_ | refine aP 2 [4] ?_)))
 | ((first | (with_reducible refine And.intro ?_ ?_) | (with_reducible refine Need.mk ?_)); focus (first | exact True.intro | (intro _; (with_reducible assumption)) | (simp; done)))
 | (with_reducible refine retK_n ?_)
 | ((with_reducible show condN _ _ _ _ _ _); first
 | ((with_reducible refine condN_t ?_ ?_) <;> (intro hc; (try simp only [zB, zC, reduceCtorEq] at hc); (try (exfalso; contradiction)))))
 | ((with_reducible show callN _ _ _ _ _ _ _ _ _ _); first
 | (refine callN_q (k := 34) fnok_34 (sheet_p s hs) ?_ ?_))
 | ((with_reducible show callGN _ _ _ _ _ _ _ _ _ _); first
 | (refine callGN_q (k := 50) fnok_50 (fun hg => nts_p n N hn hN) ?_ ?_))
 | ((fail_if_success (with_reducible show AW _ _ _ _)); simp (maxSteps := 2000000) only [go_sem, reduceIte, reduceCtorEq, xA, xL, xD, xE, xM, xS, xB, Tryz.f21, intI])
 | ((with_reducible refine hK _ ?_); clear hK K))
  all_goals (first | (have e := mk_bad hB; rw [e.1, e.2]; (repeat' (first | exact rfl | (with_reducible refine And.intro ?_ ?_))); done) | exact (mk_no hB hc).elim)
theorem mk_3p (s : ShtS) (n : Nat) (N : Nat → NotS) (hs : s.Ok) (hn : n ≤ 9223372036854775807) (hN : ∀ i, i < n → (N i).Ok) (hB : mkB s n N = true) (h9 : s.ed ≥ 1000) : CallsP Tryz.prog 21 [(shP s), .one (.lst 7 n (notF N))] (.tup [(shP (MkS s n N)), .one (.g (.int .i64 (MkE s n N)))]) := by
  have h3 := mk_spl hB
  have hv := h3.1
  have hw := h3.2.1
  have hn2 := h3.2.2
  have hle := lakL_le s N n
  have h91 : (1000 ≤ s.ed) = True := eq_true h9
  refine CallsP_of Tryz.func21 rfl (by rw [Tryz.ntmps21]; simp) ?_
  simp only [shP, Tryz.ntmps21, zM, PT.tv, argEnv, Nat.zero_add, Nat.reduceAdd]
  repeat' (first
 | ((with_reducible show AW _ _ _ _); first
 | (with_reducible first | refine aS (fun K hK => ?_) | refine aT ?_ | refine aC ?_ | refine aB ?_)
 | (first
 | (with_reducible first | refine aP 0 [0,1] ?_ | refine aP 1 [1,2,4] ?_ | refine aP 3 [1,2,4] ?_ | refine aP 4 [4] ?_)))
 | ((first | (with_reducible refine And.intro ?_ ?_) | (with_reducible refine Need.mk ?_)); focus (first | exact True.intro | (intro _; exact True.intro)))
 | (with_reducible refine retK_n ?_)
 | ((with_reducible show condN _ _ _ _ _ _); first
 | ((with_reducible refine condN_t ?_ ?_) <;> (intro hc; (try simp only [zB, zC, reduceCtorEq] at hc); (try (exfalso; contradiction)))))
 | ((with_reducible show callN _ _ _ _ _ _ _ _ _ _); first
 | (refine callN_q (k := 34) fnok_34 (sheet_p s hs) ?_ ?_))
 | ((with_reducible show callGN _ _ _ _ _ _ _ _ _ _); first
 | (refine callGN_q (k := 50) fnok_50 (fun hg => nts_p n N hn hN) ?_ ?_))
 | ((fail_if_success (with_reducible show AW _ _ _ _)); simp (maxSteps := 2000000) only [go_sem, reduceIte, reduceCtorEq, xA, xL, xD, xE, xM, xS, xB, Tryz.f21, intI, hv, hw, h91])
 | ((with_reducible refine hK _ ?_); clear hK K))
  all_goals ((have e := mk_3 hB h9; rw [e.1, e.2]; (repeat' (first | exact rfl | (with_reducible refine And.intro ?_ ?_))); done))
set_option maxHeartbeats 16000000 in
theorem mk_w (s : ShtS) (n : Nat) (N : Nat → NotS) (k : Nat) (od : Nat → Int) (hs : s.Ok) (hn : n ≤ 9223372036854775807) (hN : ∀ i, i < n → (N i).Ok) (hk : k ≤ 9223372036854775807) (hB : corB s n N k = true) (h9 : s.ed < 1000) (hL : CallsP Tryz.prog 59 [(shP s), .one (.lst 7 n (notF N))] (.t (.one (.lst 1 k (intI od))))) : CallsP Tryz.prog 21 [(shP s), .one (.lst 7 n (notF N))] (.tup [(shP (mkF (CorS s n N k od) (CorE s n N k od))), .one (.g (.int .i64 (CorE s n N k od)))]) := by
  have hil : True := trivial
  have mk1 : True := trivial
  have hB2 := hB
  unfold corB at hB2
  simp only [Bool.and_eq_true, decide_eq_true_eq] at hB2
  have hv := hB2.1.1
  have hw := hB2.1.2
  have h91 : (1000 ≤ s.ed) = False := eq_false (by omega)
  refine CallsP_of Tryz.func21 rfl (by rw [Tryz.ntmps21]; simp) ?_
  simp only [shP, Tryz.ntmps21, zM, PT.tv, argEnv, Nat.zero_add, Nat.reduceAdd]
  repeat' (first
 | ((with_reducible show AW _ _ _ _); first
 | (with_reducible first | refine aS (fun K hK => ?_) | refine aI ?_ | refine aX ?_ | refine aT ?_ | refine aC ?_ | refine aB ?_)
 | (first
 | ((with_reducible show AW _ (Code.region 17 _ true) _ _); refine AW_ins (m := (corS s n N od i).q) (p := posI (liI (corS s n N od i).q (corS s n N od i).dn) (fndS n N (od i)).nu) (zs := liI (corS s n N od i).q (corS s n N od i).dn) (x := (fndS n N (od i)).nu) 30 31 rfl rfl rfl rfl rfl rfl rfl rfl rfl rfl rfl ⟨rfl, by simp, by decide⟩ rfl rfl (by decide) (by omega) (liI_row _ _) (liI_len _ _) (posI_q _ _ _) rfl rfl rfl rfl (by decide) (by kernel_rfl) (by kernel_rfl) (by kernel_rfl) (by kernel_rfl) (by kernel_rfl) ?_)
 | (with_reducible first | refine aP 0 [0,1,2] ?_ | refine aP (ops := #[⟨some 10, _, _, _, _, _⟩, _, _, _, _, _, _, _, _]) 1 [1,2,4] ?_ | refine aP (ops := #[⟨some 14, _, _, _, _, _⟩, _, _]) 1 [0,1,2] ?_ | refine aP (ops := #[⟨some 5, _, _, _, _, _⟩, _, _, _, _]) 1 [0,1] ?_ | refine aP (ops := #[⟨some 6, _, _, _, _, _⟩, _, _]) 1 [0,1] ?_ | refine aP (ops := #[⟨some 4, _, _, _, _, _⟩, _, _, _, _, _, _]) 1 [0,1] ?_)
 | ((with_reducible refine aR (c := Code.region 1 _ true) [2,3] ?_); (with_reducible refine aD ?_ ?_ ?_ ?_); (focus kernel_rfl); (focus kernel_rfl); (focus kernel_rfl))
 | (with_reducible first | refine aP (ops := #[⟨some 16, _, _, _, _, _⟩, _, _]) 2 [1,2,8] ?_ | refine aP (ops := #[⟨some 9, _, _, _, _, _⟩]) 2 [0,1,7,8] ?_ | refine aP (ops := #[⟨some 23, _, _, _, _, _⟩, _]) 2 [2,3,5,6] ?_ | refine aP (ops := #[⟨some 20, _, _, _, _, _⟩, _, _, _]) 3 [1,2,4] ?_ | refine aP (ops := #[⟨some 19, _, _, _, _, _⟩]) 3 [1,8,16,17,18] ?_ | refine aP (ops := #[⟨some 10, _, _, _, _, _⟩, _]) 3 [0,1,7,8] ?_ | refine aP (ops := #[⟨some 25, _, _, _, _, _⟩, _, _, _]) 3 [2,3,5,6,7] ?_ | refine aP (ops := #[⟨some 20, _, _, _, _, _⟩, _, _, _, _]) 4 [1,8,16,17,18] ?_ | refine aP (ops := #[⟨some 11, _, _, _, _, _⟩, _, _, _, _, _]) 4 [0,1,5,7,8] ?_ | refine aP (ops := #[⟨some 4, _, _, _, _, _⟩]) 4 [] ?_ | refine aP (ops := #[⟨some 24, _, _, _, _, _⟩, _, _, _]) 5 [1,2,4] ?_ | refine aP (ops := #[⟨some 24, _, _, _, _, _⟩, _, _, _, _, _, _, _, _]) 5 [1,8,9,10,16,17,18] ?_ | refine aP (ops := #[⟨some 17, _, _, _, _, _⟩, _]) 5 [5] ?_ | refine aP (ops := #[⟨some 29, _, _, _, _, _⟩, _, _]) 5 [2,3,5,6,7] ?_ | refine aP (ops := #[⟨some 27, _, _, _, _, _⟩, _, _, _, _, _, _, _, _, _]) 6 [1,4,6] ?_ | refine aP (ops := #[⟨some 29, _, _, _, _, _⟩, _]) 6 [1,8,9,11,12,16,17,18] ?_ | refine aP (ops := #[⟨some 18, _, _, _, _, _⟩, _]) 6 [0,1,7,8] ?_ | refine aP (ops := #[⟨some 4, _, _, _, _, _⟩]) 6 [] ?_ | refine aP (ops := #[⟨some 34, _, _, _, _, _⟩, _]) 7 [4,6,8] ?_ | refine aP (ops := #[⟨some 31, _, _, _, _, _⟩, _, _]) 7 [9] ?_ | refine aP (ops := #[⟨some 4, _, _, _, _, _⟩]) 7 [] ?_)
 | ((with_reducible refine aR (c := Code.region 7 _ true) [2,3,5,7] ?_); (with_reducible refine aD ?_ ?_ ?_ ?_); (focus kernel_rfl); (focus kernel_rfl); (focus kernel_rfl))
 | (with_reducible first | refine aP (ops := #[⟨some 36, _, _, _, _, _⟩, _, _, _]) 8 [4,8] ?_ | refine aP (ops := #[⟨some 32, _, _, _, _, _⟩, _, _, _]) 8 [1,8,9,11,16,17,18] ?_ | refine aP (ops := #[⟨some 4, _, _, _, _, _⟩]) 8 [] ?_ | refine aP (ops := #[⟨some 38, _, _, _, _, _⟩, _, _, _, _, _, _]) 9 [4,6] ?_ | refine aP (ops := #[⟨some 35, _, _, _, _, _⟩, _]) 9 [1,8,9,13,16,17,18] ?_ | refine aP (ops := #[⟨some 39, _, _, _, _, _⟩, _, _, _, _]) 9 [2,3,5,7] ?_ | refine aP (ops := #[⟨some 44, _, _, _, _, _⟩, _, _, _]) 10 [4,6] ?_ | refine aP (ops := #[⟨some 37, _, _, _, _, _⟩, _, _, _]) 10 [9,13] ?_ | refine aP (ops := #[⟨some 4, _, _, _, _, _⟩]) 10 [] ?_ | refine aP (ops := #[⟨some 39, _, _, _, _, _⟩, _]) 11 [1,8,16,17,18] ?_ | refine aP (ops := #[⟨some 44, _, _, _, _, _⟩, _, _, _, _, _, _, _]) 11 [2,3,5] ?_ | refine aP (ops := #[⟨some 6, _, _, _, _, _⟩, _]) 12 [] ?_ | refine aP (ops := #[⟨some 4, _, _, _, _, _⟩]) 12 [] ?_)
 | ((with_reducible refine aR (c := Code.region 13 _ true) [2,3,5] ?_); (with_reducible refine aD ?_ ?_ ?_ ?_); (focus kernel_rfl); (focus kernel_rfl); (focus kernel_rfl))
 | (with_reducible first | refine aP 14 [2,3,8,10] ?_ | refine aP 15 [] ?_)
 | ((with_reducible refine aR (c := Code.region 16 _ true) [2,3,8] ?_); (with_reducible refine aD ?_ ?_ ?_ ?_); (focus kernel_rfl); (focus kernel_rfl); (focus kernel_rfl))
 | (with_reducible refine AW_frz (c := Code.region 18 _ false) [30] ?_ (aP 18 [] ?_)))
 | ((with_reducible show AW _ (Code.loop _) _ _); first
 | ((with_reducible refine aL (c := (Code.seq (Code.region 3 _ _) _)) (ι := Nat) [1,8,16,17] (fun i => [(18, iA .i64 (i : Int))]) (fun i => [(2, [.iv (.g (.int .i64 (corS s n N od i).ch)), .iv (.g (.int .i64 (corS s n N od i).sc)), .iv (.g (.int .i64 (corS s n N od i).ed)), .iv (.g (.int .i64 (corS s n N od i).m.A)), .iv (.g (.int .i64 (corS s n N od i).m.B)), .iv (.g (.int .i64 (corS s n N od i).m.C)), .iv (.g (.int .i64 (corS s n N od i).m.D)), .iv (.g (.int .i64 (corS s n N od i).m.E)), .iv (.g (.int .i64 (corS s n N od i).m.F)), .iv (.g (.int .i64 (corS s n N od i).m.R)), .iv (.g (.int .i64 (corS s n N od i).cap)), .iv (.lst 1 (corS s n N od i).q (intI (corS s n N od i).dn)), .iv (.lst 9 (corS s n N od i).n (featF (corS s n N od i).f))])]) (fun i => i ≤ k ∧ (∀ j, j < i → stpE (corS s n N od j) n N (od j) = 0)) (fun i => k - i) 0 ?lg3 ?l13 ?l23 ?li3 ?lr3); (case' lg3 => rintro i _); (case' li3 => try (exact ⟨Nat.zero_le _, fun i hi => absurd hi (Nat.not_lt_zero _)⟩)); (case' lr3 => rintro i ⟨hi, hai⟩ KR hR3; (clear mk1; have hvi := cor_v (N := N) (n := n) (od := od) hv i hai; have hCo := sht_ok hvi; have hsq := sht_q hvi; have hF := fndS_ok hN (od i); have hFn := hF.n; have hP := prtS_ok hF (corS s n N od i).ch; have hPk := hP.k; have hPq := hP.q; have hPo := hP.o; clear hil; have hil := hil_e (corS s n N od i) (fndS n N (od i)).nu); simp only [keepE, hupd, hset, lk, if_true, if_false, xE, reduceIte, zN, hv, hw, h91, hil, insH, insC, Nat.le_refl]))
 | ((with_reducible refine aL (c := (Code.seq (Code.region 2 _ _) _)) (ι := Nat) [0,1,7] (fun j => [(8, iA .i64 (j : Int))]) (fun j => []) (fun j => j ≤ (prtS (fndS n N (od i)) (corS s n N od i).ch).q ∧ (∀ k, k < j → hasL (corS s n N od i).q (corS s n N od i).dn ((prtS (fndS n N (od i)) (corS s n N od i).ch).a k) = true)) (fun j => (prtS (fndS n N (od i)) (corS s n N od i).ch).q - j) 0 ?lg2 ?l12 ?l22 ?li2 ?lr2); (case' lg2 => rintro j _); (case' li2 => try (exact ⟨Nat.zero_le _, fun i hi => absurd hi (Nat.not_lt_zero _)⟩)); (case' lr2 => rintro j ⟨hj, haj⟩ KR hR2; simp only [keepE, hupd, hset, lk, if_true, if_false, xE, reduceIte, zN, hv, hw, h91, hil, insH, insC, Nat.le_refl]))))
 | ((first | (with_reducible refine And.intro ?_ ?_) | (with_reducible refine Need.mk ?_)); focus (first | exact rowI_iv _ | first | exact True.intro | omega | (intro _; exact True.intro)))
 | (with_reducible refine retK_n ?_)
 | ((with_reducible show condN _ _ _ _ _ _); first
 | ((with_reducible refine condN_t ?_ ?_) <;> (intro hc; (try simp only [zB, zC, reduceCtorEq] at hc); ((try (have hbd := corS_bd (n := n) (N := N) (od := od) hv k)); (try (have e0 : k = i := (by omega); have hbd := corS_bd (n := n) (N := N) (od := od) hv i))); (try (exfalso; contradiction)))))
 | ((with_reducible refine And.intro ?_ ?_); focus ((with_reducible show chkR _ _ _ = true); kernel_rfl))
 | ((with_reducible show callN _ _ _ _ _ _ _ _ _ _); first
 | (refine callN_q (k := 34) fnok_34 (sheet_p s hs) ?_ ?_)
 | (refine callN_q (k := 64) fnok_64 (fnd_p n N hn hN (od i) hw) ?_ ?_)
 | (refine callN_q (k := 63) fnok_63 (has_p (corS s n N od i) _ (sht_ok hvi) hvi) ?_ ?_)
 | (refine callN_q (k := 59) fnok_59 (hL) ?_ ?_)
 | ((refine callN_i (k := 57) Tryz.func57 rfl fnok_57 (by rw [Tryz.ntmps57]; simp) ?_ ?_ (fun K hK => ?_)); (focus (exact True.intro)); (focus ((simp [lsF]; done))); simp only [Tryz.ntmps57, List.map_cons, List.map_nil, List.nil_append, List.cons_append, List.append_nil, LV.tv, argEnv, Nat.zero_add, Nat.reduceAdd])
 | ((refine callN_i (k := 61) Tryz.func61 rfl fnok_61 (by rw [Tryz.ntmps61]; simp) ?_ ?_ (fun K hK => ?_)); (focus (exact True.intro)); (focus ((simp [lsF]; done))); simp only [Tryz.ntmps61, List.map_cons, List.map_nil, List.nil_append, List.cons_append, List.append_nil, LV.tv, argEnv, Nat.zero_add, Nat.reduceAdd])
 | ((refine callN_i (k := 95) Tryz.func95 rfl fnok_95 (by rw [Tryz.ntmps95]; simp) ?_ ?_ (fun K hK => ?_)); (focus (exact True.intro)); (focus ((simp [lsF]; done))); simp only [Tryz.ntmps95, List.map_cons, List.map_nil, List.nil_append, List.cons_append, List.append_nil, LV.tv, argEnv, Nat.zero_add, Nat.reduceAdd])
 | ((refine callN_ic (k := 43) Tryz.func43 rfl fnok_43 (by rw [Tryz.ntmps43]; simp) ?_ ?_ (fun K hK => ?_)); (focus (exact True.intro)); (focus ((simp [lsF]; done))); simp only [Tryz.ntmps43, List.map_cons, List.map_nil, List.nil_append, List.cons_append, List.append_nil, LV.tv, argEnv, Nat.zero_add, Nat.reduceAdd])
 | ((refine callN_ic (k := 82) Tryz.func82 rfl fnok_82 (by rw [Tryz.ntmps82]; simp) ?_ ?_ (fun K hK => ?_)); (focus (exact True.intro)); (focus ((simp [lsF]; done))); simp only [Tryz.ntmps82, List.map_cons, List.map_nil, List.nil_append, List.cons_append, List.append_nil, LV.tv, argEnv, Nat.zero_add, Nat.reduceAdd]))
 | ((with_reducible show callGN _ _ _ _ _ _ _ _ _ _); first
 | (refine callGN_q (k := 50) fnok_50 (fun hg => nts_p n N hn hN) ?_ ?_))
 | ((with_reducible show callDN _ _ _ _ _ _ _ _ _ _ _ _ _); first
 | (refine callDN_q (k := 65) fnok_65 (prtF_p (fndS n N (od i)) (corS s n N od i).ch hF) ?_ ?_)
 | (refine callDN_q (k := 63) fnok_63 (has_p (corS s n N od i) _ (sht_ok hvi) hvi) ?_ ?_)
 | (refine callDN_q (k := 32) fnok_32 (Apply_p (corS s n N od i).n (corS s n N od i).f (prtS (fndS n N (od i)) (corS s n N od i).ch).k (prtS (fndS n N (od i)) (corS s n N od i).ch).o hCo.n hCo.f hPk hPo) ?_ ?_)
 | (refine callDN_q (k := 83) fnok_83 (bs_p (corS s n N od i).q (corS s n N od i).dn _ (by omega) (fun i j h1 h2 => rise_all hsq.2.2 j h1 h2)) ?_ ?_))
 | ((with_reducible refine hR3 _ (i + 1) ?_); (try clear hR3 KR))
 | ((with_reducible refine hR2 _ (j + 1) ?_); (try clear hR2 KR))
 | ((with_reducible refine Told.mk ?_); simp only [go_sem, reduceIte, reduceCtorEq, xA, xL, xD, xE, xM, xS, xB, intI, hv, hw, h91, hil, insH, insC, Nat.le_refl] <;> ((((try simp (disch := omega) only [seaWrap, Int.natCast_add, Int.cast_ofNat_Int, and_true, true_and, and_self]); (repeat' (first | omega | rfl | (with_reducible refine And.intro ?_ ?_) | (exact all_succ (by assumption) (by assumption)) | ((exact Or.inl rfl)) | ((exact all_succ (by assumption) ((stp_b (by assumption)).trans ((Ap_val hvi (fndS_v hw (by assumption))).trans ((ed_ap (by assumption) (by assumption)).trans (ap_0s (by assumption) (by assumption) (mss_fs (by assumption) (by assumption) haj) (by assumption) (by assumption))))))) | ((rw [cor_step rfl (by assumption) (by assumption)])) | ((exact Or.inr ⟨rfl, fun i o hi ho => rowI_dn2 (by omega) ho⟩)))); done))))
 | ((fail_if_success (with_reducible show AW _ _ _ _)); simp (maxSteps := 2000000) only [go_sem, reduceIte, reduceCtorEq, xA, xL, xD, xE, xM, xS, xB, Tryz.f21, Tryz.f57, Tryz.f61, Tryz.f95, Tryz.f43, Tryz.f82, intI, hv, hw, h91, hil, insH, insC, Nat.le_refl])
 | ((fail_if_success (with_reducible show AW _ _ _ _)); simp (disch := omega) only [seaWrap, seaDiv, seaMod])
 | ((with_reducible refine hK _ ?_); clear hK K)
 | (with_reducible apply_assumption -exfalso only [*]))
  all_goals (first | (have e := cor_err hB (by assumption) hai ((stp_b (by assumption)).trans ((Ap_val hvi (fndS_v hw (by assumption))).trans (ed_12 (by assumption)))) (by decide); rw [mkF_e (by rw [e.2.2]; decide), e.2.2]; (repeat' (first | exact rfl | (with_reducible refine And.intro ?_ ?_))); done) | (have e := cor_err hB (by assumption) hai ((stp_b (by assumption)).trans ((Ap_val hvi (fndS_v hw (by assumption))).trans (ed_4 (by assumption) (by assumption)))) (by decide); rw [mkF_e (by rw [e.2.2]; decide), e.2.2]; (repeat' (first | exact rfl | (with_reducible refine And.intro ?_ ?_))); done) | (have e := cor_err hB (by assumption) hai ((stp_b (by assumption)).trans ((Ap_val hvi (fndS_v hw (by assumption))).trans ((ed_ap (by assumption) (by assumption)).trans (ap_5 (by assumption))))) (by decide); rw [mkF_e (by rw [e.2.2]; decide), e.2.2]; (repeat' (first | exact rfl | (with_reducible refine And.intro ?_ ?_))); done) | (have e := cor_err hB (by assumption) hai ((stp_b (by assumption)).trans ((Ap_val hvi (fndS_v hw (by assumption))).trans ((ed_ap (by assumption) (by assumption)).trans (ap_16s (by assumption) (by assumption) (by assumption) (by assumption))))) (by decide); rw [mkF_e (by rw [e.2.2]; decide), e.2.2]; (repeat' (first | exact rfl | (with_reducible refine And.intro ?_ ?_))); done) | (have e := cor_err hB (by assumption) hai ((stp_b (by assumption)).trans ((Ap_val hvi (fndS_v hw (by assumption))).trans ((ed_ap (by assumption) (by assumption)).trans (ap_2 (by assumption) (mss_fs (by assumption) (by assumption) haj) (by assumption))))) (by decide); rw [mkF_e (by rw [e.2.2]; decide), e.2.2]; (repeat' (first | exact rfl | (with_reducible refine And.intro ?_ ?_))); done) | (have e := cor_err hB (by assumption) hai ((stp_b (by assumption)).trans ((Ap_val hvi (fndS_v hw (by assumption))).trans ((ed_ap (by assumption) (by assumption)).trans (ap_15s (by assumption) (by assumption) (mss_fs (by assumption) (by assumption) haj) (by assumption) (by assumption))))) (by decide); rw [mkF_e (by rw [e.2.2]; decide), e.2.2]; (repeat' (first | exact rfl | (with_reducible refine And.intro ?_ ?_))); done) | (have e := cor_err hB (by assumption) hai (stp_n (by assumption)) (by decide); rw [mkF_e (by rw [e.2.2]; decide), e.2.2]; (repeat' (first | exact rfl | (with_reducible refine And.intro ?_ ?_))); done) | (have e := cor_ok hB (by assumption) hai; have e0 : k = i := (by omega); subst e0; rw [mkF_0 e.2.2, e.1, e.2.2]; (repeat' (first | exact rfl | (with_reducible refine And.intro ?_ ?_) | (intro i q hi hq; exact IV.eqv_refl _) | (intro i q hi hq; exact rfl))); done))
theorem mk_tp (s : ShtS) (n : Nat) (N : Nat → NotS) (hs : s.Ok) (hn : n ≤ 9223372036854775807) (hN : ∀ i, i < n → (N i).Ok) (hB : mkB s n N = true) (h9 : s.ed < 1000) : CallsP Tryz.prog 21 [(shP s), .one (.lst 7 n (notF N))] (.tup [(shP (MkS s n N)), .one (.g (.int .i64 (MkE s n N)))]) := by
  have h3 := mk_spl hB
  have hle := lakL_le s N n
  have e := mk_t hB h9
  rw [e.1, e.2]
  exact mk_w s n N (lakL s N n).length (zL (lakL s N n)) hs hn hN (by omega) (mk_cor hB) h9 (lak_p s n N hs hn hN h3.1 (by omega))
theorem mk_p (s : ShtS) (n : Nat) (N : Nat → NotS) (hs : s.Ok) (hn : n ≤ 9223372036854775807) (hN : ∀ i, i < n → (N i).Ok) : CallsP Tryz.prog 21 [(shP s), .one (.lst 7 n (notF N))] (.tup [(shP (MkS s n N)), .one (.g (.int .i64 (MkE s n N)))]) := by
  cases hB : mkB s n N with
  | false => exact mk_f s n N hs hn hN hB
  | true =>
    by_cases h9 : s.ed ≥ 1000
    · exact mk_3p s n N hs hn hN hB h9
    · exact mk_tp s n N hs hn hN hB (by omega)
end Go.Proofs.YtdhgiklbkmkblaaGreat
