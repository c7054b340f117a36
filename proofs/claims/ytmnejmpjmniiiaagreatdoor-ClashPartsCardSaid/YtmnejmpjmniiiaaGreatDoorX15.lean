/- Part 15 of 15: contracts of functions and plain laws for the root text. No condition. -/
import Derived.Test.YtmnejmpjmniiiaaGreatDoorX01
import Derived.Test.YtmnejmpjmniiiaaGreatDoorX02
import Derived.Test.YtmnejmpjmniiiaaGreatDoorX03
import Derived.Test.YtmnejmpjmniiiaaGreatDoorX04
import Derived.Test.YtmnejmpjmniiiaaGreatDoorX05
import Derived.Test.YtmnejmpjmniiiaaGreatDoorX06
import Derived.Test.YtmnejmpjmniiiaaGreatDoorX07
import Derived.Test.YtmnejmpjmniiiaaGreatDoorX08
import Derived.Test.YtmnejmpjmniiiaaGreatDoorX09
import Derived.Test.YtmnejmpjmniiiaaGreatDoorX10
import Derived.Test.YtmnejmpjmniiiaaGreatDoorX11
import Derived.Test.YtmnejmpjmniiiaaGreatDoorX12
import Derived.Test.YtmnejmpjmniiiaaGreatDoorX13
import Derived.Test.YtmnejmpjmniiiaaGreatDoorX14
import Derived.Test.YtmnejmpjmniiiaaGreatDoorRows
set_option linter.unusedVariables false
set_option linter.unusedSimpArgs false
namespace Go.Proofs.YtmnejmpjmniiiaaGreatDoor
open Go.RowKit Go.Sea
def mskT (T : Nat → Bool) : Nat → Nat
  | 0 => 0
  | i + 1 => mskT T i ||| if T i = true then 2 ^ i else 0
theorem mskT_bit {T : Nat → Bool} {t : Nat} : ∀ m, (mskT T m).testBit t = true ↔ t < m ∧ T t = true
  | 0 => by simp [mskT]
  | m + 1 => by
    show (mskT T m ||| _).testBit t = true ↔ _
    rw [Nat.testBit_or, Bool.or_eq_true, mskT_bit m]
    constructor
    · rintro (⟨h1, h2⟩ | h)
      · exact ⟨by omega, h2⟩
      · split at h
        · rename_i g
          rw [Nat.testBit_two_pow, decide_eq_true_eq] at h
          subst h; exact ⟨by omega, g⟩
        · simp at h
    · rintro ⟨h1, h2⟩
      rcases (by omega : t < m ∨ t = m) with q | rfl
      · exact Or.inl ⟨q, h2⟩
      · right; rw [if_pos h2, Nat.testBit_two_pow]; simp
theorem mskT_in {T : Nat → Bool} : ∀ m, inS m (mskT T m)
  | 0 => by show 0 < 2 ^ 0; decide
  | m + 1 => by
    have ih : mskT T m < 2 ^ m := mskT_in m
    have h2 : 2 ^ m < 2 ^ (m + 1) := Nat.pow_lt_pow_right (by decide) (by omega)
    refine Nat.or_lt_two_pow (by omega) ?_
    split
    · exact h2
    · exact Nat.pow_pos (by decide)
def idxT (T : Nat → Bool) (m : Nat) : List Nat := (List.range m).filter T
def nuT (S : Nat → StepS) (T : Nat → Bool) (m : Nat) : List Int := (idxT T m).map fun i => (S i).nu
theorem nuT_t {S : Nat → StepS} {T : Nat → Bool} {i : Nat} (h : T i = true) : nuT S T (i + 1) = nuT S T i ++ [(S i).nu] := by
  unfold nuT idxT; rw [List.range_succ, List.filter_append, List.map_append, List.filter_cons_of_pos h]; rfl
theorem nuT_f {S : Nat → StepS} {T : Nat → Bool} {i : Nat} (h : T i = false) : nuT S T (i + 1) = nuT S T i := by
  unfold nuT idxT; rw [List.range_succ, List.filter_append, List.map_append, List.filter_cons_of_neg (by rw [h]; simp)]; simp
theorem idxT_mem {T : Nat → Bool} {m i : Nat} : i ∈ idxT T m ↔ i < m ∧ T i = true := by unfold idxT; simp
theorem nuT_at {S : Nat → StepS} {T : Nat → Bool} {m j : Nat} (h : j < (nuT S T m).length) : ∃ i, (idxT T m)[j]? = some i ∧ zL (nuT S T m) j = (S i).nu ∧ i < m ∧ T i = true := by
  have h' : j < (idxT T m).length := by unfold nuT at h; simpa using h
  refine ⟨(idxT T m)[j], List.getElem?_eq_getElem h', ?_, ?_⟩
  · unfold zL nuT; simp [List.getD_eq_getElem?_getD, List.getElem?_eq_getElem h']
  · exact idxT_mem.1 (List.getElem_mem h')
theorem nuT_set {S : Nat → StepS} {m : Nat} (hv : vsB S m = true) (T : Nat → Bool) : setB S m (nuT S T m).length (zL (nuT S T m)) = true := by
  refine decide_eq_true fun j hj => ?_
  obtain ⟨i, e1, e2, h1, h2⟩ := nuT_at hj
  refine ⟨by rw [e2, ix_nu hv h1]; exact h1, ?_⟩
  unfold lsA
  split
  · rename_i h0
    rw [← h0] at *
    have := ((of_decide_eq_true hv).2 i h1).1
    have := of_decide_eq_true this
    rw [e2]; omega
  · rename_i h0
    obtain ⟨k, f1, f2, g1, g2⟩ := nuT_at (S := S) (T := T) (m := m) (j := j - 1) (by omega)
    rw [e2, f2]
    refine nu_lt hv ?_ h1
    obtain ⟨a1, a2⟩ := List.getElem?_eq_some_iff.1 e1
    obtain ⟨b1, b2⟩ := List.getElem?_eq_some_iff.1 f1
    have hp : (idxT T m).Pairwise (· < ·) := List.Pairwise.sublist List.filter_sublist List.pairwise_lt_range
    have := List.pairwise_iff_getElem.1 hp (j - 1) j b1 a1 (by omega)
    rw [a2, b2] at this; exact this
theorem rdN_bit {S : Nat → StepS} {m : Nat} {a : Nat → Int} {t : Nat} : ∀ j, (rdN S m a j).testBit t = true ↔ ∃ u, u < j ∧ ixM S m (a u) = t
  | 0 => by simp [rdN]
  | j + 1 => by
    show (rdN S m a j ||| 2 ^ _).testBit t = true ↔ _
    rw [Nat.testBit_or, Bool.or_eq_true, rdN_bit j, Nat.testBit_two_pow, decide_eq_true_eq]
    constructor
    · rintro (⟨u, h1, h2⟩ | h)
      · exact ⟨u, by omega, h2⟩
      · exact ⟨j, by omega, h⟩
    · rintro ⟨u, h1, h2⟩
      rcases (by omega : u < j ∨ u = j) with q | rfl
      · exact Or.inl ⟨u, q, h2⟩
      · exact Or.inr h2
theorem nuT_rd {S : Nat → StepS} {m : Nat} (hv : vsB S m = true) (T : Nat → Bool) : rdN S m (zL (nuT S T m)) (nuT S T m).length = mskT T m := by
  apply Nat.eq_of_testBit_eq
  intro t
  rw [Bool.eq_iff_iff, rdN_bit, mskT_bit]
  constructor
  · rintro ⟨u, h1, h2⟩
    obtain ⟨i, e1, e2, g1, g2⟩ := nuT_at h1
    rw [e2, ix_nu hv g1] at h2
    subst h2; exact ⟨g1, g2⟩
  · rintro ⟨h1, h2⟩
    have hm : t ∈ idxT T m := idxT_mem.2 ⟨h1, h2⟩
    obtain ⟨u, hu, e⟩ := List.mem_iff_getElem.1 hm
    have hu' : u < (nuT S T m).length := by unfold nuT; simpa using hu
    obtain ⟨i, e1, e2, g1, g2⟩ := nuT_at hu'
    rw [List.getElem?_eq_getElem hu, e] at e1
    cases e1
    exact ⟨u, hu', by rw [e2, ix_nu hv g1]⟩
theorem ask_T {x : CaS} (he : cvE x = 0) (T : Nat → Bool) : askE x (nuT x.S T x.m).length (zL (nuT x.S T x.m)) = 0 ∧ askB x (nuT x.S T x.m).length (zL (nuT x.S T x.m)) = behB (opY x) (mskT T x.m) := by
  obtain ⟨hv, _⟩ := cv_ok he
  have hs := nuT_set hv T
  have e : askE x (nuT x.S T x.m).length (zL (nuT x.S T x.m)) = 0 := by rw [ask_2 (by omega) hs, he]
  refine ⟨e, ?_⟩
  unfold askB
  rw [if_pos e]
  show behB (opY x) (rdN x.S x.m (zL (nuT x.S T x.m)) (nuT x.S T x.m).length) = _
  rw [nuT_rd hv T]
theorem ask_ok {x : CaS} {q : Nat} {a : Nat → Int} (h : askE x q a = 0) : cvE x = 0 ∧ setB x.S x.m q a = true ∧ inS x.m (askS x q a) ∧ askB x q a = behB (opY x) (askS x q a) := by
  have h0 : askB x q a = behB (opY x) (askS x q a) := by unfold askB; rw [if_pos h]
  unfold askE at h
  split at h
  · exact absurd h (by decide)
  · split at h
    · exact absurd h (by decide)
    · rename_i h1 h2
      have hs : setB x.S x.m q a = true := by
        cases e : setB x.S x.m q a with
        | true => rfl
        | false => exact absurd e h2
      exact ⟨h, hs, rdN_in (of_decide_eq_true hs), h0⟩
def hasZ (l : List Int) (y : Int) : Bool := hasL l.length (zL l) y
theorem hasZ_iff {l : List Int} {y : Int} : hasZ l y = true ↔ y ∈ l := by
  unfold hasZ hasL
  rw [decide_eq_true_eq]
  constructor
  · rintro ⟨i, h1, h2⟩
    rw [← h2]; unfold zL
    simp only [List.getD_eq_getElem?_getD, List.getElem?_eq_getElem h1, Option.getD_some]
    exact List.getElem_mem h1
  · intro h
    obtain ⟨i, h1, h2⟩ := List.mem_iff_getElem.1 h
    refine ⟨i, h1, ?_⟩
    unfold zL
    simp only [List.getD_eq_getElem?_getD, List.getElem?_eq_getElem h1, Option.getD_some]; exact h2
def okJ (S : Nat → StepS) (q : Nat) (a : Nat → Int) (out : List Int) (i : Nat) : Nat → Bool
  | 0 => hasL q a (S i).nu
  | j + 1 => okJ S q a out i j && hasZ out ((S i).a j)
theorem okJ_0 (S : Nat → StepS) (q : Nat) (a : Nat → Int) (out : List Int) (i : Nat) : okJ S q a out i 0 = hasL q a (S i).nu := rfl
theorem okJ_t {S : Nat → StepS} {q : Nat} {a : Nat → Int} {out : List Int} {i j : Nat} (h : okJ S q a out i j = true) : okJ S q a out i (j + 1) = hasZ out ((S i).a j) := by show (_ && _) = _; rw [h]; rfl
theorem okJ_f {S : Nat → StepS} {q : Nat} {a : Nat → Int} {out : List Int} {i j : Nat} (h : okJ S q a out i j = false) : okJ S q a out i (j + 1) = false := by show (_ && _) = _; rw [h]; rfl
def clsZ (S : Nat → StepS) (q : Nat) (a : Nat → Int) : Nat → List Int
  | 0 => []
  | i + 1 => if okJ S q a (clsZ S q a i) i (S i).q = true then clsZ S q a i ++ [(S i).nu] else clsZ S q a i
theorem clsZ_0 (S : Nat → StepS) (q : Nat) (a : Nat → Int) : clsZ S q a 0 = [] := rfl
theorem clsZ_t {S : Nat → StepS} {q : Nat} {a : Nat → Int} {i : Nat} (h : okJ S q a (clsZ S q a i) i (S i).q = true) : clsZ S q a (i + 1) = clsZ S q a i ++ [(S i).nu] := if_pos h
theorem clsZ_f {S : Nat → StepS} {q : Nat} {a : Nat → Int} {i : Nat} (h : okJ S q a (clsZ S q a i) i (S i).q = false) : clsZ S q a (i + 1) = clsZ S q a i := if_neg (by rw [h]; simp)
theorem clsZ_le (S : Nat → StepS) (q : Nat) (a : Nat → Int) : ∀ i, (clsZ S q a i).length ≤ i
  | 0 => Nat.le_refl _
  | i + 1 => by
    have := clsZ_le S q a i
    show (if _ then _ else _ : List Int).length ≤ _
    split
    · simp; omega
    · omega
def clT (S : Nat → StepS) (q : Nat) (a : Nat → Int) (i : Nat) : Bool := okJ S q a (clsZ S q a i) i (S i).q
theorem clsZ_nuT (S : Nat → StepS) (q : Nat) (a : Nat → Int) : ∀ m, clsZ S q a m = nuT S (clT S q a) m
  | 0 => rfl
  | m + 1 => by
    cases h : clT S q a m with
    | true => rw [nuT_t h, ← clsZ_nuT S q a m]; exact clsZ_t h
    | false => rw [nuT_f h, ← clsZ_nuT S q a m]; exact clsZ_f h
theorem okJ_iff {S : Nat → StepS} {q : Nat} {a : Nat → Int} {out : List Int} {i : Nat} : ∀ j, okJ S q a out i j = true ↔ hasL q a (S i).nu = true ∧ ∀ u, u < j → (S i).a u ∈ out
  | 0 => ⟨fun h => ⟨h, fun u hu => absurd hu (Nat.not_lt_zero u)⟩, fun h => h.1⟩
  | j + 1 => by
    show (_ && _) = true ↔ _
    rw [Bool.and_eq_true, okJ_iff j, hasZ_iff]
    constructor
    · rintro ⟨⟨h1, h2⟩, h3⟩
      refine ⟨h1, fun u hu => ?_⟩
      rcases (by omega : u < j ∨ u = j) with g | rfl
      · exact h2 u g
      · exact h3
    · rintro ⟨h1, h2⟩
      exact ⟨⟨h1, fun u hu => h2 u (by omega)⟩, h2 j (by omega)⟩
theorem cl_closed {x : CaS} (he : cvE x = 0) (q : Nat) (a : Nat → Int) : ClosN x (mskT (clT x.S q a) x.m) := by
  obtain ⟨hv, _, _, _, hm, _⟩ := cv_ok he
  have key : ∀ n i, i < n → i < x.m → clT x.S q a i = true → ∀ k, (opP x i).testBit k = true → k < x.m ∧ clT x.S q a k = true := by
    intro n
    induction n with
    | zero => intro i h; omega
    | succ n ih =>
      intro i hin hi hT k hk
      obtain ⟨u, hu, g⟩ := (pst_bit hv hi).1 hk
      have h1 := ((okJ_iff _).1 hT).2 u hu
      rw [clsZ_nuT] at h1
      unfold nuT at h1
      obtain ⟨t, ht, e⟩ := List.mem_map.1 h1
      have ht2 := idxT_mem.1 ht
      have ek : ixM x.S x.m ((x.S i).a u) = t := by rw [← e]; exact ix_nu hv (by omega)
      rw [ek] at g
      rcases g with rfl | g
      · exact ⟨by omega, ht2.2⟩
      · exact ih t (by omega) (by omega) ht2.2 k g
  intro i hi k hk
  have hi' := (mskT_bit _).1 hi
  exact (mskT_bit _).2 (key (i + 1) i (Nat.lt_succ_self i) hi'.1 hi'.2 k hk)
def sbZ (r : Nat) (b : Nat → Int) (a : Nat → Int) : Nat → List Int
  | 0 => []
  | i + 1 => if hasL r b (a i) = true then sbZ r b a i ++ [a i] else sbZ r b a i
theorem sbZ_0 (r : Nat) (b : Nat → Int) (a : Nat → Int) : sbZ r b a 0 = [] := rfl
theorem sbZ_t {r : Nat} {b : Nat → Int} {a : Nat → Int} {i : Nat} (h : hasL r b (a i) = true) : sbZ r b a (i + 1) = sbZ r b a i ++ [a i] := if_pos h
theorem sbZ_f {r : Nat} {b : Nat → Int} {a : Nat → Int} {i : Nat} (h : hasL r b (a i) = false) : sbZ r b a (i + 1) = sbZ r b a i := if_neg (by rw [h]; simp)
theorem sbZ_mem {r : Nat} {b : Nat → Int} {a : Nat → Int} {y : Int} : ∀ i, y ∈ sbZ r b a i → ∃ u, u < i ∧ a u = y
  | 0, h => by simp [sbZ] at h
  | i + 1, h => by
    have h : y ∈ (if hasL r b (a i) = true then sbZ r b a i ++ [a i] else sbZ r b a i) := h
    have ih := sbZ_mem (r := r) (b := b) (a := a) (y := y) i
    split at h
    · rcases List.mem_append.1 h with g | g
      · obtain ⟨u, h1, h2⟩ := ih g; exact ⟨u, by omega, h2⟩
      · exact ⟨i, by omega, (List.mem_singleton.1 g).symm⟩
    · obtain ⟨u, h1, h2⟩ := ih h; exact ⟨u, by omega, h2⟩
theorem sbZ_le (r : Nat) (b : Nat → Int) (a : Nat → Int) : ∀ i, (sbZ r b a i).length ≤ i
  | 0 => Nat.le_refl _
  | i + 1 => by
    have := sbZ_le r b a i
    show (if _ then _ else _ : List Int).length ≤ _
    split
    · simp; omega
    · omega
theorem set_len {S : Nat → StepS} {m q : Nat} {a : Nat → Int} (hv : vsB S m = true) (h : setB S m q a = true) : q ≤ m := by
  have hs := of_decide_eq_true h
  have key : ∀ j, j ≤ q → ∀ u, u < j → u ≤ ixM S m (a u) := by
    intro j
    induction j with
    | zero => intro _ u h; omega
    | succ j ih =>
      intro hj u hu
      rcases (by omega : u < j ∨ u = j) with g | rfl
      · exact ih (by omega) u g
      · rcases Nat.eq_zero_or_pos u with rfl | h0
        · exact Nat.zero_le _
        · have h1 := ih (by omega) (u - 1) (by omega)
          have h2 := (hs u (by omega)).2
          unfold lsA at h2; rw [if_neg (by omega)] at h2
          have h3 := (hs u (by omega)).1
          have h4 := (hs (u - 1) (by omega)).1
          have e1 := ix_get h3
          have e2 := ix_get h4
          have h5 : ixM S m (a (u - 1)) < ixM S m (a u) := by
            rcases Nat.lt_or_ge (ixM S m (a (u - 1))) (ixM S m (a u)) with g | g
            · exact g
            · rcases Nat.lt_or_eq_of_le g with g | g
              · have := nu_lt hv g h4; rw [e1, e2] at this; omega
              · rw [g, e2] at e1; omega
          omega
  rcases Nat.eq_zero_or_pos q with rfl | h0
  · exact Nat.zero_le _
  · have h1 := key q (Nat.le_refl q) (q - 1) (by omega)
    have h2 := (hs (q - 1) (by omega)).1
    omega
theorem parts_ok {x : CaS} {q : Nat} {a : Nat → Int} (h : askE x q a = 0) (hb : askB x q a = true) (r : Nat) (b : Nat → Int) :
    askE x (clsZ x.S (sbZ r b a q).length (zL (sbZ r b a q)) x.m).length (zL (clsZ x.S (sbZ r b a q).length (zL (sbZ r b a q)) x.m)) = 0 ∧ askB x (clsZ x.S (sbZ r b a q).length (zL (sbZ r b a q)) x.m).length (zL (clsZ x.S (sbZ r b a q).length (zL (sbZ r b a q)) x.m)) = true := by
  obtain ⟨he, hs, hin, hB⟩ := ask_ok h
  obtain ⟨hv, _⟩ := cv_ok he
  rw [clsZ_nuT]
  obtain ⟨h1, h2⟩ := ask_T he (clT x.S (sbZ r b a q).length (zL (sbZ r b a q)))
  refine ⟨h1, ?_⟩
  rw [h2]
  rw [hB] at hb
  refine (beh_iff he (mskT_in _)).2 (stand_part he hin (mskT_in _) ((beh_iff he hin).1 hb) (cl_closed he _ _) fun i hi => ?_)
  obtain ⟨g1, g2⟩ := (mskT_bit _).1 hi
  have g3 : hasZ (sbZ r b a q) (x.S i).nu = true := ((okJ_iff _).1 g2).1
  obtain ⟨u, g4, g5⟩ := sbZ_mem q (hasZ_iff.1 g3)
  exact (rdN_bit q).2 ⟨u, g4, by rw [g5]; exact ix_nu hv g1⟩
end Go.Proofs.YtmnejmpjmniiiaaGreatDoor
set_option maxRecDepth 100000
set_option maxHeartbeats 4000000
namespace Go.Proofs.YtmnejmpjmniiiaaGreatDoor
open Go.RowKit Go.Sea
open Nat renaming reduceAdd → xA, reduceLT → xL, reduceLeDiff → xD, reduceEqDiff → xE, reduceMul → xM, reduceSub → xS, reduceBEq → xB
theorem fnok_11 : fnOk Tryz.prog 11 = true := by kernel_rfl
theorem fnok_28 : fnOk Tryz.prog 28 = true := by kernel_rfl
theorem fnok_29 : fnOk Tryz.prog 29 = true := by kernel_rfl
attribute [go_sem] fnok_11 fnok_28 fnok_29
theorem ask_not {x : CaS} {q : Nat} {a : Nat → Int} (h : askE x q a ≠ 0 ∨ askB x q a = false) : (!askB x q a) = true := by
  rcases h with h | h
  · rw [(ask_e h).2]; rfl
  · rw [h]; rfl
theorem rhas_z (l : List Int) (y : Int) (hl : l.length ≤ 9223372036854775807) : CallsP Tryz.prog 28 [.one (.lst 1 l.length (fun p o => civ ((rowI l).getD (p + o) .any))), .one (.g (.int .i64 y))] (.t (.one (.g (.bool (hasZ l y))))) :=
  (rhas_p l.length (zL l) y hl).eqv ⟨⟨rfl, rfl, fun i o hi ho => row_zL l i o hi ho⟩, IV.eqv_refl _, trivial⟩ (PV.eqv_refl _)
theorem clsd_p (S : Nat → StepS) (m : Nat) (hm : m ≤ 1000000) (hsq : ∀ i, i < m → (S i).q ≤ 9223372036854775807) (q : Nat) (a : Nat → Int) (hqq : q ≤ 9223372036854775807) : CallsP Tryz.prog 29 [.one (.lst 2 m (stF S)), .one (.lst 1 q (intI a))] (.t (.one (.lst 1 (clsZ S q a m).length (intI (zL (clsZ S q a m)))))) := by
  have mk0 : True := trivial
  have mk1 : True := trivial
  have mk2 : True := trivial
  have hok : True := trivial
  refine CallsP_of Tryz.func29 rfl (by rw [Tryz.ntmps29]; simp) ?_
  simp only [Tryz.ntmps29, zM, PT.tv, argEnv, Nat.zero_add, Nat.reduceAdd]
  repeat' (first
 | ((with_reducible show callGN _ _ false _ _ _ _ _ _ _); (with_reducible refine callGN_sq (fun h => by cases h) (fun _ => ?_)))
 | ((with_reducible show callGK _ _ false _ _ _ _); (with_reducible refine callGK_s (fun h => by cases h) (fun _ => ?_)))
 | ((with_reducible show callGK _ _ true (Oper.mk _ (Op.call _) _ _ _ _) _ _ _); (with_reducible refine callGK_s (fun _ => ?_) (fun h => by cases h)))
 | ((with_reducible show callGN _ _ true _ _ _ _ _ _ _); (with_reducible refine callGN_sq (fun _ => ?_) (fun h => by cases h)))
 | ((with_reducible refine Need.mk ?_); exact rowI_iv _)
 | ((with_reducible show AW _ _ _ _); first
 | (with_reducible first | refine aS (fun K hK => ?_) | refine aI ?_ | refine aX ?_ | refine aT ?_ | refine aC ?_ | refine aB ?_)
 | (first
 | (with_reducible first | refine aP 0 [0,1] ?_ | refine aP 1 [0,1] ?_ | refine aP 2 [0,1,5] ?_ | refine aP 3 [0,1,5,6] ?_ | refine aP 4 [0,1,5,6] ?_ | refine aP 5 [0,1,5,6] ?_ | refine aP 6 [0,1,5,6,7] ?_ | refine aP 7 [0,1,5,6,7,8] ?_ | refine aP 8 [0,1,5,6,7,8] ?_ | refine aP 9 [0,1,5,6,7,8] ?_ | refine aP 10 [0,1,5,6,7] ?_ | refine aP 11 [0,1,5,6] ?_ | refine aP 12 [5] ?_))
 | ((with_reducible show AW _ (Code.loop _) _ _); first
 | ((with_reducible refine aL (c := (Code.seq (Code.seq (Code.region 3 _ _) _) _)) (ι := Nat) [0,1] (fun i => [(5, .t (.one (.slc 0 0 (clsZ S q a i).length 1))), (6, iA .i64 (i : Int))]) (fun i => [(0, rowI (clsZ S q a i))]) (fun i => i ≤ m) (fun i => m - i) 0 ?lg3 ?l13 ?l23 ?li3 ?lr3); (case' lg3 => rintro i _); (case' li3 => try (first | trivial | omega | (simp; done) | (simp; omega))); (case' lr3 => rintro i hi KR hR3; simp only [keepE, hupd, hset, lk, if_true, if_false, xE, reduceIte, zN, stF0, stF1, clsZ_0, okJ_0, hok, maxLen, rowI_pur, rowI_snoc, rowI_len]))
 | ((with_reducible refine aL (c := (Code.seq (Code.seq (Code.region 7 _ _) _) _)) (ι := Nat) [0,1,5,6] (fun j => [(7, .t (.one (.iv (.g (.bool (okJ S q a (clsZ S q a i) i j)))))), (8, iA .i64 (j : Int))]) (fun j => []) (fun j => j ≤ (S i).q) (fun j => (S i).q - j) 0 ?lg7 ?l17 ?l27 ?li7 ?lr7); (case' lg7 => rintro j _); (case' li7 => try (first | trivial | omega | (simp; done) | (simp; omega))); (case' lr7 => rintro j hj KR hR7; simp only [keepE, hupd, hset, lk, if_true, if_false, xE, reduceIte, zN, stF0, stF1, clsZ_0, okJ_0, hok, maxLen, rowI_pur, rowI_snoc, rowI_len]))))
 | ((first | (with_reducible refine And.intro ?_ ?_) | (with_reducible refine Need.mk ?_)); focus (first | exact True.intro | (with_reducible assumption) | omega | (refine ⟨?_, ?_⟩ <;> omega) | (intro _; first | exact True.intro | (with_reducible assumption) | omega) | (intros; (repeat' (first | exact True.intro | omega | (with_reducible assumption) | (with_reducible refine And.intro ?_ ?_))); done) | (simp (disch := omega) only [Bool.and_eq_true, Bool.or_eq_true, decide_eq_true_eq, bne_iff_ne, ne_eq] at *; first | done | omega | (intros; omega)) | (simp; done) | (simp; omega) | (simp +contextual; done) | (intro h; rw [h]; rfl) | (intro hq; have hq2 := hq; simp only [Bool.and_eq_true, Bool.or_eq_true, Bool.not_eq_true', Bool.not_not, Bool.not_eq_false', decide_eq_true_eq, decide_eq_false_iff_not] at hq2; (repeat' (first | exact hq | (with_reducible refine And.intro ?_ ?_) | omega | (simp_all; done))); done) | (intros; simp_all; done)))
 | (with_reducible refine retK_n ?_)
 | (with_reducible refine retK_n' ?_)
 | (with_reducible refine retH_n rfl rfl rfl ?_)
 | (with_reducible refine retH_n' rfl rfl rfl ?_)
 | ((with_reducible show condN _ _ _ _ _ _); first
 | ((with_reducible refine condN_t ?_ ?_) <;> (intro hc; (try simp only [zB, zC, reduceCtorEq] at hc); ((try (exfalso; omega)); (try (clear mk0; have hle := clsZ_le S q a i; have hsqi := hsq i (by omega))); (try (clear mk1 hok; have hjq : j < (S i).q := (by omega); cases hok : okJ S q a (clsZ S q a i) i j)); (try (clear mk2; have hjq2 : (S i).q = j := (by omega)))); (try (exfalso; first | contradiction | omega)))))
 | ((with_reducible show callN _ _ _ _ _ _ _ _ _ _); first
 | (refine callN_q (k := 28) fnok_28 (rhas_p q a (S i).nu hqq) ?_ ?_)
 | (refine callN_q (k := 28) fnok_28 (rhas_z (clsZ S q a i) ((S i).a j) (by omega)) ?_ ?_))
 | ((with_reducible show callGN _ _ _ _ _ _ _ _ _ _); first
 | (refine callGN_q (k := 28) fnok_28 (fun hg => rhas_p q a (S i).nu hqq) ?_ ?_)
 | (refine callGN_q (k := 28) fnok_28 (fun hg => rhas_z (clsZ S q a i) ((S i).a j) (by omega)) ?_ ?_))
 | ((with_reducible refine hR3 _ (i + 1) ?_); (try clear hR3 KR))
 | ((with_reducible refine hR7 _ (j + 1) ?_); (try clear hR7 KR))
 | ((with_reducible refine Told.mk ?_); simp only [go_sem, reduceIte, reduceCtorEq, xA, xL, xD, xE, xM, xS, xB, stF0, stF1, intI, clsZ_0, okJ_0, hok, maxLen, rowI_pur, rowI_snoc, rowI_len] <;> (first | exact True.intro | (((try simp (disch := omega) only [seaWrap, Int.natCast_add, Int.cast_ofNat_Int, and_true, true_and, and_self]); (repeat' (first | exact True.intro | omega | rfl | (with_reducible assumption) | (with_reducible refine And.intro ?_ ?_) | (exact all_succ (by assumption) (by assumption)) | ((exact rfl)) | ((exact wkC_eq rfl (rowI_iv _))) | ((rw [clsZ_t (by rw [hjq2]; assumption)]; first | rfl | exact wkC_eq rfl (rowI_iv _) | (simp; done))) | ((rw [clsZ_f (by rw [hjq2]; assumption)]; first | rfl | exact wkC_eq rfl (rowI_iv _) | (simp; done))) | ((rw [clsZ_f (by rw [hjq2]; assumption)])))); done)) | (((try simp (disch := omega) only [seaWrap, Int.natCast_add, Int.cast_ofNat_Int, and_true, true_and, and_self]); (repeat' (first | exact True.intro | omega | rfl | (with_reducible assumption) | (with_reducible refine And.intro ?_ ?_) | (exact all_succ (by assumption) (by assumption)) | ((exact rfl)) | ((exact wkC_eq rfl (rowI_iv _))) | ((rw [okJ_t hok])) | ((rw [okJ_f hok])))); done)) | (refine Stuck.out ?_)))
 | ((fail_if_success (with_reducible show AW _ _ _ _)); simp (maxSteps := 2000000) only [go_sem, reduceIte, reduceCtorEq, xA, xL, xD, xE, xM, xS, xB, Tryz.f29, stF0, stF1, intI, clsZ_0, okJ_0, hok, maxLen, rowI_pur, rowI_snoc, rowI_len])
 | ((fail_if_success (with_reducible show AW _ _ _ _)); simp (disch := omega) only [seaWrap, seaDiv, seaMod])
 | ((with_reducible refine hK _ ?_); clear hK K)
 | (with_reducible apply_assumption -exfalso only [*]))
  all_goals (first | (have e0 : i = m := (by omega); subst e0; exact ⟨fun c hc9 => (by have := rowI_iv _ c hc9; cases c <;> first | trivial | exact this.elim), rfl, fun i o hi ho => row_zL _ i o hi ho⟩) | skip)
theorem clsd_q (S : Nat → StepS) (m : Nat) (hm : m ≤ 1000000) (hsq : ∀ i, i < m → (S i).q ≤ 9223372036854775807) (l : List Int) (hl : l.length ≤ 9223372036854775807) : CallsP Tryz.prog 29 [.one (.lst 2 m (stF S)), .one (.lst 1 l.length (fun p o => civ ((rowI l).getD (p + o) .any)))] (.t (.one (.lst 1 (clsZ S l.length (zL l) m).length (intI (zL (clsZ S l.length (zL l) m)))))) :=
  (clsd_p S m hm hsq l.length (zL l) hl).eqv ⟨PT.eqv_refl _, ⟨rfl, rfl, fun i o hi ho => row_zL l i o hi ho⟩, trivial⟩ (PV.eqv_refl _)
theorem pt_law (x : CaS) (hx : x.Ok) (q : Nat) (a : Nat → Int) (hqq : q ≤ 9223372036854775807) (r : Nat) (b : Nat → Int) (hr : r ≤ 9223372036854775807) : CallsP Tryz.prog 4 [.agg [.lst 9 x.n (featF x.f), .lst 2 x.m (stF x.S), .lst 1 x.mo (ptF x.O)], .one (.lst 1 q (intI a)), .one (.lst 1 r (intI b))] (.t (.one (.g (.bool (true))))) := by
  have hxm := hx.m
  have mk0 : True := trivial
  have mk1 : True := trivial
  have mk2 : True := trivial
  have hpE : True := trivial
  have hpB : True := trivial
  refine CallsP_of Tryz.func4 rfl (by rw [Tryz.ntmps4]; simp) ?_
  simp only [Tryz.ntmps4, zM, PT.tv, argEnv, Nat.zero_add, Nat.reduceAdd]
  repeat' (first
 | ((with_reducible refine Need.mk ?_); exact rowI_iv _)
 | ((with_reducible show AW _ _ _ _); first
 | (with_reducible first | refine aS (fun K hK => ?_) | refine aI ?_ | refine aX ?_ | refine aT ?_ | refine aC ?_ | refine aB ?_)
 | (first
 | (with_reducible first | refine aP 0 [0,1,2] ?_ | refine aP 1 [1,2,3] ?_ | refine aP 2 [1,2,3,7] ?_ | refine aP 3 [7] ?_ | refine aP 4 [1,2,3,7] ?_ | refine aP 5 [1,2,3,7,8,9] ?_ | refine aP 6 [7,8] ?_ | refine aP 7 [1,2,3,7] ?_ | refine aP 8 [1,2,3,7,10] ?_ | refine aP 9 [1,2,3,7,10,11] ?_ | refine aP 10 [1,2,3,7,10,11] ?_ | refine aP 11 [1,2,3,7,10,11] ?_ | refine aP 12 [1,2,3,7,10,11] ?_ | refine aP 13 [3,7,10] ?_ | refine aP 14 [3,7,12] ?_ | refine aP 15 [7,13,14] ?_))
 | ((with_reducible show AW _ (Code.loop _) _ _); first
 | ((with_reducible refine aL (c := (Code.seq (Code.seq (Code.region 9 _ _) _) _)) (ι := Nat) [1,2,3,7] (fun i => [(10, .t (.one (.slc 1 0 (sbZ r b a i).length 1))), (11, iA .i64 (i : Int))]) (fun i => [(1, rowI (sbZ r b a i))]) (fun i => i ≤ q) (fun i => q - i) 0 ?lg9 ?l19 ?l29 ?li9 ?lr9); (case' lg9 => rintro i _); (case' li9 => try (first | trivial | omega | (simp; done) | (simp; omega))); (case' lr9 => rintro i hi KR hR9; simp only [keepE, hupd, hset, lk, if_true, if_false, xE, reduceIte, zN, stF0, stF1, ptF0, sbZ_0, hpE, hpB, maxLen, rowI_pur, rowI_snoc, rowI_len]))))
 | ((first | (with_reducible refine And.intro ?_ ?_) | (with_reducible refine Need.mk ?_)); focus (first | exact True.intro | (with_reducible assumption) | omega | (refine ⟨?_, ?_⟩ <;> omega) | (intro _; first | exact True.intro | (with_reducible assumption) | omega) | (intros; (repeat' (first | exact True.intro | omega | (with_reducible assumption) | (with_reducible refine And.intro ?_ ?_))); done) | (simp (disch := omega) only [Bool.and_eq_true, Bool.or_eq_true, decide_eq_true_eq, bne_iff_ne, ne_eq] at *; first | done | omega | (intros; omega)) | (simp; done) | (simp; omega) | (simp +contextual; done) | (intro h; rw [h]; rfl) | (intro hq; have hq2 := hq; simp only [Bool.and_eq_true, Bool.or_eq_true, Bool.not_eq_true', Bool.not_not, Bool.not_eq_false', decide_eq_true_eq, decide_eq_false_iff_not] at hq2; (repeat' (first | exact hq | (with_reducible refine And.intro ?_ ?_) | omega | (simp_all; done))); done) | (intros; simp_all; done)))
 | (with_reducible refine retK_n ?_)
 | (with_reducible refine retK_n' ?_)
 | (with_reducible refine retH_n rfl rfl rfl ?_)
 | (with_reducible refine retH_n' rfl rfl rfl ?_)
 | ((with_reducible show condN _ _ _ _ _ _); first
 | ((with_reducible refine condN_t ?_ ?_) <;> (intro hc; (try simp only [zB, zC, reduceCtorEq] at hc); ((try (exfalso; omega)); (try (clear mk0 hpE hpB; have hE : askE x q a = 0 := hc.1; have hA : askB x q a = true := hc.2; have hpE := (parts_ok hE hA r b).1; have hpB := (parts_ok hE hA r b).2; have hql := set_len (cv_ok (ask_ok hE).1).1 (ask_ok hE).2.1; have hlz := clsZ_le x.S (sbZ r b a q).length (zL (sbZ r b a q)) x.m; have hlq := sbZ_le r b a q)); (try (clear mk1; have hls := sbZ_le r b a i)); (try (clear mk2; have ei : q = i := (by omega); subst ei))); (try (exfalso; first | contradiction | omega)))))
 | ((with_reducible show callN _ _ _ _ _ _ _ _ _ _); first
 | (refine callN_q (k := 11) fnok_11 (head_p) ?_ ?_)
 | (refine callN_q (k := 15) fnok_15 (std_p x hx q a hqq) ?_ ?_)
 | (refine callN_q (k := 15) fnok_15 (std_p x hx (clsZ x.S (sbZ r b a q).length (zL (sbZ r b a q)) x.m).length (zL (clsZ x.S (sbZ r b a q).length (zL (sbZ r b a q)) x.m)) (by omega)) ?_ ?_)
 | (refine callN_q (k := 28) fnok_28 (rhas_p r b (a i) hr) ?_ ?_)
 | (refine callN_q (k := 29) fnok_29 (clsd_q x.S x.m (by omega) hx.q (sbZ r b a q) (by omega)) ?_ ?_)
 | (refine callN_zq (k := 29) [1] ?_ ?_))
 | ((with_reducible refine hR9 _ (i + 1) ?_); (try clear hR9 KR))
 | ((with_reducible refine Told.mk ?_); simp only [go_sem, reduceIte, reduceCtorEq, xA, xL, xD, xE, xM, xS, xB, stF0, stF1, ptF0, intI, sbZ_0, hpE, hpB, maxLen, rowI_pur, rowI_snoc, rowI_len] <;> (first | exact True.intro | (((try simp (disch := omega) only [seaWrap, Int.natCast_add, Int.cast_ofNat_Int, and_true, true_and, and_self]); (repeat' (first | exact True.intro | omega | rfl | (with_reducible assumption) | (with_reducible refine And.intro ?_ ?_) | (exact all_succ (by assumption) (by assumption)) | ((exact rfl)) | ((exact wkC_eq rfl (rowI_iv _))) | ((rw [sbZ_t (by assumption)]; first | rfl | exact wkC_eq rfl (rowI_iv _) | (simp; done))) | ((rw [sbZ_f (by assumption)]; first | rfl | exact wkC_eq rfl (rowI_iv _) | (simp; done))) | ((rw [sbZ_f (by assumption)])))); done)) | (refine Stuck.out ?_)))
 | ((fail_if_success (with_reducible show AW _ _ _ _)); simp (maxSteps := 2000000) only [go_sem, reduceIte, reduceCtorEq, xA, xL, xD, xE, xM, xS, xB, Tryz.f4, stF0, stF1, ptF0, intI, sbZ_0, hpE, hpB, maxLen, rowI_pur, rowI_snoc, rowI_len])
 | ((fail_if_success (with_reducible show AW _ _ _ _)); simp (disch := omega) only [seaWrap, seaDiv, seaMod])
 | ((with_reducible refine hK _ ?_); clear hK K)
 | (with_reducible apply_assumption -exfalso only [*]))
  all_goals (first | exact ask_not hc | skip)
end Go.Proofs.YtmnejmpjmniiiaaGreatDoor
