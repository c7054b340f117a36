/- Part 12 of 16: contracts of functions and plain laws for the root text. No condition. -/
import Derived.Test.YtmnejmpjmniiiaaGreatDoorW01
import Derived.Test.YtmnejmpjmniiiaaGreatDoorW02
import Derived.Test.YtmnejmpjmniiiaaGreatDoorW03
import Derived.Test.YtmnejmpjmniiiaaGreatDoorW04
import Derived.Test.YtmnejmpjmniiiaaGreatDoorW05
import Derived.Test.YtmnejmpjmniiiaaGreatDoorW06
import Derived.Test.YtmnejmpjmniiiaaGreatDoorW07
import Derived.Test.YtmnejmpjmniiiaaGreatDoorW08
import Derived.Test.YtmnejmpjmniiiaaGreatDoorW09
import Derived.Test.YtmnejmpjmniiiaaGreatDoorW10
import Derived.Test.YtmnejmpjmniiiaaGreatDoorW11
set_option linter.unusedVariables false
set_option linter.unusedSimpArgs false
set_option maxRecDepth 100000
set_option maxHeartbeats 4000000
namespace Go.Proofs.YtmnejmpjmniiiaaGreatDoor
open Go.RowKit Go.Sea
open Nat renaming reduceAdd → xA, reduceLT → xL, reduceLeDiff → xD, reduceEqDiff → xE, reduceMul → xM, reduceSub → xS, reduceBEq → xB
theorem fnok_65 : fnOk Tryz.prog 65 = true := by kernel_rfl
theorem fnok_67 : fnOk Tryz.prog 67 = true := by kernel_rfl
theorem fo_50 : fieldsOk Tryz.prog 50 = true := by kernel_rfl
theorem fo_73 : fieldsOk Tryz.prog 73 = true := by kernel_rfl
theorem of_73_5 : offOf Tryz.prog 73 5 = some 5 := by kernel_rfl
theorem pl_50_0 : placeF Tryz.prog 50 0 = some (0, 1) := by kernel_rfl
theorem pl_50_1 : placeF Tryz.prog 50 1 = some (1, 1) := by kernel_rfl
theorem pl_50_2 : placeF Tryz.prog 50 2 = some (2, 1) := by kernel_rfl
theorem pl_50_3 : placeF Tryz.prog 50 3 = some (3, 1) := by kernel_rfl
theorem pl_73_0 : placeF Tryz.prog 73 0 = some (0, 1) := by kernel_rfl
theorem pl_73_1 : placeF Tryz.prog 73 1 = some (1, 1) := by kernel_rfl
theorem pl_73_2 : placeF Tryz.prog 73 2 = some (2, 1) := by kernel_rfl
theorem pl_73_3 : placeF Tryz.prog 73 3 = some (3, 1) := by kernel_rfl
theorem pl_73_4 : placeF Tryz.prog 73 4 = some (4, 1) := by kernel_rfl
theorem sl_29 : slD Tryz.prog 29 = some (4, 32, 50) := by kernel_rfl
theorem ty_29 : tyD Tryz.prog 29 = some (false, 1) := by kernel_rfl
theorem zc_50 : zeroC Tryz.prog 50 = some [.iv (.g (.int .i64 0)), .iv (.g (.int .i64 0)), .iv (.g (.int .i64 0)), .iv (.g (.int .i64 0))] := by kernel_rfl
theorem zc_73 : zeroC Tryz.prog 73 = some [.iv (.g (.slice none 0 0)), .iv (.g (.slice none 0 0)), .iv (.g (.slice none 0 0)), .iv (.g (.slice none 0 0)), .iv (.g (.slice none 0 0)), .iv (.g (.slice none 0 0))] := by kernel_rfl
attribute [go_sem] fnok_65 fnok_67 fo_50 fo_73 of_73_5 pl_50_0 pl_50_1 pl_50_2 pl_50_3 pl_73_0 pl_73_1 pl_73_2 pl_73_3 pl_73_4 sl_29 ty_29 zc_50 zc_73
theorem cv_ok {x : CaS} (h : cvE x = 0) : vsB x.S x.m = true ∧ feaB x.n x.f = true ∧ x.mo = x.m ∧ (∀ i, i < x.mo → opsB (x.O i).k (x.O i).o = true) ∧ x.m ≤ 10 ∧ x.n + smK x.O x.mo ≤ 300 := by
  unfold cvE at h
  split at h
  · exact absurd h (by decide)
  · rename_i h0
    split at h
    · exact absurd h (by decide)
    · rename_i h1
      refine ⟨?_, ?_, ?_, fun i hi => ?_, by omega, by omega⟩
      · cases e : vsB x.S x.m with
        | true => rfl
        | false => exact absurd (Or.inl e) h0
      · cases e : feaB x.n x.f with
        | true => rfl
        | false => exact absurd (Or.inr (Or.inl e)) h0
      · by_cases e : x.mo = x.m
        · exact e
        · exact absurd (Or.inr (Or.inr (Or.inl e))) h0
      · cases e : opsB (x.O i).k (x.O i).o with
        | true => rfl
        | false => exact absurd (Or.inr (Or.inr (Or.inr ⟨i, hi, e⟩))) h0
theorem st_ex {S : Nat → StepS} {m i j : Nat} (h : vsB S m = true) (hi : i < m) (hj : j < (S i).q) : ∃ t, t < i ∧ (S t).nu = (S i).a j :=
  nuM_mem.1 (of_decide_eq_true ((of_decide_eq_true h).2 i hi).2.2.2 j hj)
theorem ix_of {S : Nat → StepS} {m t : Nat} {x : Int} (ht : t < m) (h : (S t).nu = x) (g : ∀ j, j < t → (S j).nu ≠ x) : ixM S m x = t :=
  fstB_h (b := fun i => decide ((S i).nu = x)) (decide_eq_true h) (fun j hj => decide_eq_false (g j hj)) m ht
theorem frz_ivf {i : Nat} {cs : List CV} : ∀ l : List CV, (∀ c, c ∈ l → isIv c) → List.map (frzC i cs) l = l
  | [], _ => rfl
  | c :: l, h => by
    have h1 := h c (List.mem_cons_self ..)
    rw [List.map_cons, frz_ivf l fun c hc => h c (List.mem_cons_of_mem _ hc)]
    cases c <;> first | rfl | exact h1.elim
def rowU (l : List Nat) : List CV := l.map fun (x : Nat) => CV.iv (.g (.int .u64 (x : Int)))
theorem rowU_len (l : List Nat) : (rowU l).length = l.length := by simp [rowU]
theorem rowU_iv (l : List Nat) : ∀ c, c ∈ rowU l → isIv c := fun c hc => by obtain ⟨x, _, rfl⟩ := List.mem_map.1 hc; trivial
theorem rowU_get {l : List Nat} {k : Nat} (h : k < l.length) : (rowU l).getD k .any = .iv (.g (.int .u64 ((l.getD k 0 : Nat) : Int))) := by
  unfold rowU; simp [List.getD_eq_getElem?_getD, List.getElem?_eq_getElem h]
theorem rowU_upd {l : List Nat} {k : Nat} (h : k < l.length) (x : Nat) : List.take k (rowU l) ++ [.iv (.g (.int .u64 (x : Int)))] ++ List.drop (k + 1) (rowU l) = rowU (l.set k x) := by
  unfold rowU
  rw [List.map_set, List.set_eq_take_append_cons_drop, if_pos (by simpa using h)]; simp
theorem rowU_pur (l : List Nat) (i : Nat) : List.map (CV.purge i) (rowU l) = rowU l := purge_iv i (rowU_iv l)
theorem rowU_frz (l : List Nat) (i : Nat) (cs : List CV) : List.map (frzC i cs) (rowU l) = rowU l := frz_ivf _ (rowU_iv l)
theorem repC_u : ∀ m, repC [.iv (.g (.int .u64 0))] m = rowU (List.replicate m 0)
  | 0 => rfl
  | m + 1 => by show _ ++ repC _ m = _; rw [repC_u m]; rfl
def hitX (x : CaS) (i k : Nat) : Bool := decide (0 ≤ comX (x.O i).k (x.O i).o (x.O k).k (x.O k).o)
def clsC (x : CaS) (p : Nat × Nat) : Nat → IV
  | 0 => .g (.int .i64 (x.S p.1).nu)
  | 1 => .g (.int .i64 (x.S p.2).nu)
  | 2 => .g (.int .i64 (comX (x.O p.1).k (x.O p.1).o (x.O p.2).k (x.O p.2).o))
  | _ + 3 => .g (.int .i64 (comY (x.O p.1).k (x.O p.1).o (x.O p.2).k (x.O p.2).o))
def c4 (x : CaS) (p : Nat × Nat) : List CV := [.iv (clsC x p 0), .iv (clsC x p 1), .iv (clsC x p 2), .iv (clsC x p 3)]
def rowK (x : CaS) (L : List (Nat × Nat)) : List CV := L.flatMap (c4 x)
theorem rowK_0 (x : CaS) : rowK x [] = [] := rfl
theorem rowK_len (x : CaS) : ∀ L, (rowK x L).length = L.length * 4
  | [] => rfl
  | p :: L => by show (c4 x p ++ rowK x L).length = _; rw [List.length_append, rowK_len x L]; simp [c4]; omega
theorem rowK_iv (x : CaS) (L : List (Nat × Nat)) : ∀ c, c ∈ rowK x L → isIv c := fun c hc => by
  obtain ⟨p, _, h⟩ := List.mem_flatMap.1 hc
  simp only [c4, List.mem_cons, List.not_mem_nil, or_false] at h
  rcases h with rfl | rfl | rfl | rfl <;> trivial
theorem rowK_pur (x : CaS) (L : List (Nat × Nat)) (i : Nat) : List.map (CV.purge i) (rowK x L) = rowK x L := purge_iv i (rowK_iv x L)
theorem rowK_frz (x : CaS) (L : List (Nat × Nat)) (i : Nat) (cs : List CV) : List.map (frzC i cs) (rowK x L) = rowK x L := frz_ivf _ (rowK_iv x L)
theorem rowK_s (x : CaS) (L : List (Nat × Nat)) (p : Nat × Nat) : rowK x (L ++ [p]) = rowK x L ++ c4 x p := by simp [rowK, List.flatMap_append]
theorem rowK_snoc (x : CaS) (L : List (Nat × Nat)) (a b : Nat) (i : Nat) : List.map (CV.purge i) (rowK x L ++ [.iv (.g (.int .i64 (x.S a).nu)), .iv (.g (.int .i64 (x.S b).nu)), .iv (.g (.int .i64 (comX (x.O a).k (x.O a).o (x.O b).k (x.O b).o))), .iv (.g (.int .i64 (comY (x.O a).k (x.O a).o (x.O b).k (x.O b).o)))]) = rowK x (L ++ [(a, b)]) := by
  rw [rowK_s]; exact purge_iv i (by have := rowK_iv x (L ++ [(a, b)]); rw [rowK_s] at this; exact this)
theorem rowK_at (x : CaS) : ∀ (L : List (Nat × Nat)) (i o : Nat), i < L.length → o < 4 → (rowK x L).getD (i * 4 + o) .any = .iv (clsC x (L.getD i (0, 0)) o)
  | p :: L, 0, o, _, ho => by
    rcases (by omega : o = 0 ∨ o = 1 ∨ o = 2 ∨ o = 3) with rfl | rfl | rfl | rfl <;> rfl
  | p :: L, i + 1, o, h, ho => by
    have := rowK_at x L i o (by simpa using h) ho
    show (c4 x p ++ rowK x L).getD ((i + 1) * 4 + o) .any = _
    rw [List.getD_eq_getElem?_getD, List.getElem?_append_right (by simp [c4]; omega), show (i + 1) * 4 + o - (c4 x p).length = i * 4 + o by simp [c4]; omega, ← List.getD_eq_getElem?_getD, this]
    rfl
def opP (x : CaS) : Nat → Nat := pstN x.S x.m
def opL (x : CaS) : List (Nat × Nat) := clL (opP x) (hitX x) x.m x.m
def opY (x : CaS) : ChS := ⟨x, opP x, foeN (opL x), (opL x).length, fun i o => clsC x ((opL x).getD i (0, 0)) o⟩
theorem orJ_lt {S : Nat → StepS} {m i : Nat} {P : List Nat} (hv : vsB S m = true) (hm : m ≤ 10) (hi : i < m) (hP : ∀ k, k < i → P.getD k 0 < 2 ^ k) : ∀ j, j ≤ (S i).q → orJ S m i P j < 2 ^ i
  | 0, _ => Nat.pow_pos (by decide)
  | j + 1, hj => by
    obtain ⟨t0, h1, h2⟩ := st_ex hv hi (j := j) (by omega)
    have h3 : ixM S m ((S i).a j) < i := by
      have : ∀ k, t0 < k → fstB (fun i' => decide ((S i').nu = (S i).a j)) k ≤ t0 := by
        intro k
        induction k with
        | zero => intro h; omega
        | succ k ih =>
          intro hk
          simp only [fstB]
          rcases (by omega : t0 < k ∨ t0 = k) with q | rfl
          · have := ih q; rw [if_pos (by omega)]; exact this
          · split
            · omega
            · rw [if_pos (decide_eq_true h2)]; omega
      exact Nat.lt_of_le_of_lt (this m (by omega)) h1
    have a1 := orJ_lt hv hm hi hP j (by omega)
    have a2 : P.getD (ixM S m ((S i).a j)) 0 < 2 ^ i := Nat.lt_trans (hP _ h3) (Nat.pow_lt_pow_right (by decide) h3)
    exact Nat.or_lt_two_pow a1 (Nat.or_lt_two_pow a2 (Nat.pow_lt_pow_right (by decide) h3))
theorem pst_lt {S : Nat → StepS} {m : Nat} (hv : vsB S m = true) (hm : m ≤ 10) : ∀ i, i ≤ m → ∀ k, k < i → (pstL S m i).getD k 0 < 2 ^ k
  | 0, _, k, hk => by omega
  | i + 1, hi, k, hk => by
    have ih := pst_lt hv hm i (by omega)
    show (pstL S m i ++ [_]).getD k 0 < _
    rcases (by omega : k < i ∨ k = i) with g | rfl
    · rw [getD_l (by rw [pstL_len]; exact g)]; exact ih k g
    · rw [getD_r (by rw [pstL_len]; omega), pstL_len, Nat.sub_self]
      exact orJ_lt hv hm (by omega) ih _ (Nat.le_refl _)
theorem pstN_lt {S : Nat → StepS} {m : Nat} (hv : vsB S m = true) (hm : m ≤ 10) {i : Nat} (hi : i < m) : pstN S m i < 2 ^ i := pst_lt hv hm m (Nat.le_refl _) i hi
theorem opL_mem {x : CaS} {p : Nat × Nat} : p ∈ opL x ↔ p.1 < p.2 ∧ p.2 < x.m ∧ (opP x p.2).testBit p.1 = false ∧ hitX x p.1 p.2 = true := by
  unfold opL; rw [clL_mem (Nat.le_refl _)]
  constructor
  · exact fun h => h.2
  · exact fun h => ⟨by omega, h⟩
theorem lt2_10 {k x : Nat} (hk : k ≤ 10) (h : x < 2 ^ k) : x < 1024 := Nat.lt_of_lt_of_le h (show 2 ^ k ≤ 2 ^ 10 from Nat.pow_le_pow_right (by decide) hk)
theorem opY_ok {x : CaS} (hx : x.Ok) (he : cvE x = 0) : (opY x).Ok := by
  obtain ⟨h1, h2, h3, h4, h5, h6⟩ := cv_ok he
  exact ⟨hx, h5, h3, fun i hi => lt2_10 (k := i) (by have : i < x.m := hi; omega) (pstN_lt h1 h5 hi), fun i hi => foeN_lt _ (fun p hp => by have := opL_mem.1 hp; omega) i, h2⟩
theorem clR_0 (P : Nat → Nat) (X : Nat → Nat → Bool) (i : Nat) : clR P X i 0 = [] := rfl
theorem clR_len (P : Nat → Nat) (X : Nat → Nat → Bool) (i : Nat) : ∀ t, (clR P X i t).length ≤ t
  | 0 => Nat.le_refl _
  | t + 1 => by
    have := clR_len P X i t
    show (_ ++ _ : List (Nat × Nat)).length ≤ _
    rw [List.length_append]; split <;> simp <;> omega
theorem clL_len (P : Nat → Nat) (X : Nat → Nat → Bool) (m : Nat) : ∀ k, (clL P X m k).length ≤ k * m
  | 0 => by simp [clL]
  | k + 1 => by
    have h1 := clL_len P X m k
    have h2 := clR_len P X k (m - (k + 1))
    show (_ ++ _ : List (Nat × Nat)).length ≤ _
    rw [List.length_append, Nat.add_mul]; omega
theorem clD_len {P : Nat → Nat} {X : Nat → Nat → Bool} {m i t : Nat} (hm : m ≤ 10) (hi : i < m) (ht : i + 1 + t ≤ m) : (clL P X m i ++ clR P X i t).length ≤ 110 := by
  have h1 := clL_len P X m i
  have h2 := clR_len P X i t
  have h3 : i * m ≤ 10 * 10 := Nat.mul_le_mul (by omega) hm
  rw [List.length_append]; omega
theorem pst_facts {S : Nat → StepS} {m i j t : Nat} (hv : vsB S m = true) (hm : m ≤ 10) (hi : i < m) (hj : j < (S i).q) (hti : t < i) (hk : ixM S m ((S i).a j) = t) :
    (rowU (pstR S m i (orJ S m i (pstL S m i) j))).getD i .any = .iv (.g (.int .u64 (orJ S m i (pstL S m i) j : Nat))) ∧
    (rowU (pstR S m i (orJ S m i (pstL S m i) j))).getD t .any = .iv (.g (.int .u64 ((pstL S m i).getD t 0 : Nat))) ∧
    bits .or .u64 ((pstL S m i).getD t 0 : Nat) ((2 ^ t : Nat) : Int) = (((pstL S m i).getD t 0 ||| 2 ^ t : Nat) : Int) ∧
    bits .or .u64 (orJ S m i (pstL S m i) j : Nat) (((pstL S m i).getD t 0 ||| 2 ^ t : Nat) : Int) = ((orJ S m i (pstL S m i) (j + 1) : Nat) : Int) ∧
    List.take i (rowU (pstR S m i (orJ S m i (pstL S m i) j))) ++ [.iv (.g (.int .u64 (orJ S m i (pstL S m i) (j + 1) : Nat)))] ++ List.drop (i + 1) (rowU (pstR S m i (orJ S m i (pstL S m i) j))) = rowU (pstR S m i (orJ S m i (pstL S m i) (j + 1))) := by
  have hl := pstR_len S (i := i) (orJ S m i (pstL S m i) j) hi
  have hp := pst_lt hv hm i (by omega)
  have h1 : orJ S m i (pstL S m i) j < 1024 := lt2_10 (k := i) (by omega) (orJ_lt hv hm hi hp j (by omega))
  have h2 : (pstL S m i).getD t 0 < 1024 := lt2_10 (k := t) (by omega) (hp t hti)
  have h3 := p2_lt (k := t) (by omega)
  refine ⟨?_, ?_, u_orP h2 h3, ?_, ?_⟩
  · rw [rowU_get (by rw [hl]; exact hi), pstR_i]
  · rw [rowU_get (by rw [hl]; omega), pstR_k _ _ hti]
  · rw [u_orP h1 (or_lt h2 h3)]
    show _ = ((orJ S m i (pstL S m i) j ||| ((pstL S m i).getD (ixM S m ((S i).a j)) 0 ||| 2 ^ ixM S m ((S i).a j)) : Nat) : Int)
    rw [hk]
  · rw [rowU_upd (by rw [hl]; exact hi), pstR_set]
theorem foe_facts {m i k : Nat} {L : List (Nat × Nat)} (hm : m ≤ 10) (hik : i < k) (hk : k < m) (hL : ∀ p, p ∈ L → p.1 < p.2 ∧ p.2 < m) :
    (rowU (foeR L m)).getD i .any = .iv (.g (.int .u64 (foeN L i : Nat))) ∧
    bits .or .u64 (foeN L i : Nat) ((2 ^ k : Nat) : Int) = ((foeN L i ||| 2 ^ k : Nat) : Int) ∧
    List.take i (rowU (foeR L m)) ++ [.iv (.g (.int .u64 ((foeN L i ||| 2 ^ k : Nat) : Int)))] ++ List.drop (i + 1) (rowU (foeR L m)) = rowU ((foeR L m).set i (foeN L i ||| 2 ^ k)) ∧
    (rowU ((foeR L m).set i (foeN L i ||| 2 ^ k))).getD k .any = .iv (.g (.int .u64 (foeN L k : Nat))) ∧
    bits .or .u64 (foeN L k : Nat) ((2 ^ i : Nat) : Int) = ((foeN L k ||| 2 ^ i : Nat) : Int) ∧
    List.take k (rowU ((foeR L m).set i (foeN L i ||| 2 ^ k))) ++ [.iv (.g (.int .u64 ((foeN L k ||| 2 ^ i : Nat) : Int)))] ++ List.drop (k + 1) (rowU ((foeR L m).set i (foeN L i ||| 2 ^ k))) = rowU (foeR (L ++ [(i, k)]) m) := by
  have hn : ∀ p, p ∈ L → p.1 < 10 ∧ p.2 < 10 := fun p hp => by have := hL p hp; omega
  have hl := foeR_len L m
  refine ⟨?_, u_orP (foeN_lt L hn i) (p2_lt (by omega)), ?_, ?_, u_orP (foeN_lt L hn k) (p2_lt (by omega)), ?_⟩
  · rw [rowU_get (by rw [hl]; omega), foeR_at L (by omega)]
  · exact rowU_upd (by rw [hl]; omega) _
  · rw [rowU_get (by simp [hl]; omega), foeR_k L _ hik hk]
  · rw [rowU_upd (by simp [hl]; omega), foeR_set L hik hk]
theorem past_at {S : Nat → StepS} {m k : Nat} (hk : k < m) : (rowU (pst0 S m m)).getD k .any = .iv (.g (.int .u64 (pstN S m k : Nat))) := by
  rw [rowU_get (by rw [pst0_len _ (Nat.le_refl _)]; exact hk), pst0_m]; rfl
theorem u_shr6 (x k : Nat) (h : k < 64) : (x : Int).fdiv (2 ^ (min k 64)) = ((x >>> k : Nat) : Int) := u_shr x k h
theorem u_and1 {x : Nat} (h : x < 18446744073709551616) : bits .and .u64 (x : Int) 1 = ((x &&& 1 : Nat) : Int) := u_and h (y := 1) (by decide)
theorem shr_lt {x : Nat} (k : Nat) (h : x < 18446744073709551616) : x >>> k < 18446744073709551616 := Nat.lt_of_le_of_lt (Nat.shiftRight_le x k) h
theorem bit_t {x k : Nat} (h : ((x >>> k &&& 1 : Nat) : Int) = 1) : x.testBit k = true := (u_one x k).1 h
theorem bit_f {x k : Nat} (h : ((x >>> k &&& 1 : Nat) : Int) ≠ 1) : x.testBit k = false := by
  cases e : x.testBit k with
  | false => rfl
  | true => exact absurd ((u_one x k).2 e) h
theorem row_uE {l : List Nat} {F : Nat → Nat} (h : ∀ i, i < l.length → l.getD i 0 = F i) : ∀ i o, i < l.length → o < 1 → (civ ((rowU l).getD (i + o) .any)).eqv (uF F i o) := fun i o hi ho => by
  obtain rfl : o = 0 := by omega
  rw [Nat.add_zero, rowU_get hi, h i hi]; exact IV.eqv_refl _
theorem row_kE {x : CaS} {L : List (Nat × Nat)} : ∀ i o, i < L.length → o < 4 → (civ ((rowK x L).getD (i * 4 + o) .any)).eqv (clsC x (L.getD i (0, 0)) o) := fun i o hi ho => by
  rw [rowK_at x L i o hi ho]; exact IV.eqv_refl _
theorem len_sP (L : List (Nat × Nat)) (p : Nat × Nat) : (L ++ [p]).length = L.length + 1 := by simp
theorem hit_p {x : CaS} {i k : Nat} (h : 0 ≤ comX (x.O i).k (x.O i).o (x.O k).k (x.O k).o) : hitX x i k = true := decide_eq_true h
theorem hit_n {x : CaS} {i k : Nat} (h : comX (x.O i).k (x.O i).o (x.O k).k (x.O k).o < 0) : hitX x i k = false := decide_eq_false (by omega)
theorem clD_t {x : CaS} {i t : Nat} (h1 : ((pstN x.S x.m (i + 1 + t) >>> i &&& 1 : Nat) : Int) ≠ 1) (h2 : 0 ≤ comX (x.O i).k (x.O i).o (x.O (i + 1 + t)).k (x.O (i + 1 + t)).o) : clL (opP x) (hitX x) x.m i ++ clR (opP x) (hitX x) i (t + 1) = (clL (opP x) (hitX x) x.m i ++ clR (opP x) (hitX x) i t) ++ [(i, i + 1 + t)] := by
  rw [clR_t (P := opP x) (X := hitX x) (bit_f h1) (hit_p h2), List.append_assoc]
theorem clD_f1 {x : CaS} {i t : Nat} (h1 : ((pstN x.S x.m (i + 1 + t) >>> i &&& 1 : Nat) : Int) = 1) : clL (opP x) (hitX x) x.m i ++ clR (opP x) (hitX x) i (t + 1) = (clL (opP x) (hitX x) x.m i ++ clR (opP x) (hitX x) i t) := by
  rw [clR_f (P := opP x) (X := hitX x) (Or.inl (bit_t h1))]
theorem clD_f2 {x : CaS} {i t : Nat} (h2 : comX (x.O i).k (x.O i).o (x.O (i + 1 + t)).k (x.O (i + 1 + t)).o < 0) : clL (opP x) (hitX x) x.m i ++ clR (opP x) (hitX x) i (t + 1) = (clL (opP x) (hitX x) x.m i ++ clR (opP x) (hitX x) i t) := by
  rw [clR_f (P := opP x) (X := hitX x) (Or.inr (hit_n h2))]
theorem opn_f (x : CaS) (hx : x.Ok) (he : cvE x ≠ 0) : CallsP Tryz.prog 37 [.one (.lst 9 x.n (featF x.f)), .one (.lst 2 x.m (stF x.S)), .one (.lst 1 x.mo (ptF x.O))] (.tup [.one (.g (.pointer none)), .one (.g (.int .i64 (cvE x)))]) := by
  refine CallsP_of Tryz.func37 rfl (by rw [Tryz.ntmps37]; simp) ?_
  simp only [Tryz.ntmps37, zM, PT.tv, argEnv, Nat.zero_add, Nat.reduceAdd]
  repeat' (first
 | ((with_reducible show AW _ _ _ _); first
 | (with_reducible first | refine aS (fun K hK => ?_) | refine aT ?_ | refine aC ?_)
 | ((with_reducible first | refine aP 0 [0,1,2] ?_ | refine aP 1 [0,1,2] ?_ | refine aP 2 [0,1,2,8] ?_ | refine aP 3 [8] ?_)))
 | (((with_reducible refine Need.mk ?_)); focus (exact True.intro))
 | (with_reducible refine retK_n ?_)
 | ((with_reducible show condN _ _ _ _ _ _); first
 | ((with_reducible refine condN_t ?_ ?_) <;> (intro hc; (try simp only [zB, zC, reduceCtorEq] at hc); (try (exfalso; contradiction)))))
 | ((with_reducible show callN _ _ _ _ _ _ _ _ _ _); first
 | (refine callN_q (k := 65) fnok_65 (cval_p x hx) ?_ ?_))
 | ((fail_if_success (with_reducible show AW _ _ _ _)); simp (maxSteps := 2000000) only [go_sem, reduceIte, reduceCtorEq, xA, xL, xD, xE, xM, xS, xB, Tryz.f37])
 | ((with_reducible refine hK _ ?_); clear hK K))
  all_goals ((exfalso; simp at hc; omega))
def opnS (x : CaS) (i2 t2 : Nat) (D : Nat → Bool) : AS := ⟨[(1, .t (.one (.iv (.lst 2 x.m (stF x.S))))), (2, .t (.one (.iv (.lst 1 x.mo (ptF x.O))))), (9, .t (.one (.ptr 10 0))), (15, iA .i64 ((i2 : Int))), (16, iA .i64 ((i2 : Int) + 1 + (t2 : Int))), (17, iA .i64 (comX (x.O i2).k (x.O i2).o (x.O (i2 + 1 + t2)).k (x.O (i2 + 1 + t2)).o)), (18, iA .i64 (comY (x.O i2).k (x.O i2).o (x.O (i2 + 1 + t2)).k (x.O (i2 + 1 + t2)).o)), (77, iA .i64 ((x.m : Int))), (78, iA .i64 ((i2 : Int))), (141, bif D 0 then .t (.one (.ptr 10 0)) else .any), (142, bif D 1 then .t (.one (.ptr 10 0)) else .any), (143, bif D 2 then .t (.one (.ptr 10 0)) else .any), (144, bif D 3 then .t (.one (.ptr 10 5)) else .any), (145, bif D 19 then .any else bif D 4 then .t (.one (.slc 11 0 (clL (opP x) (hitX x) x.m i2 ++ clR (opP x) (hitX x) i2 t2).length 4)) else .any), (146, bif D 5 then .t (.one (.iv (.lst 2 x.m (stF x.S)))) else .any), (147, bif D 6 then iA .i64 ((i2 : Int)) else .any), (148, bif D 7 then .t (.one (.ip 2 fun o => stF x.S i2 o)) else .any), (149, bif D 8 then .t (.one (.ip 2 fun o => stF x.S i2 o)) else .any), (150, bif D 9 then iA .i64 (((x.S i2).nu)) else .any), (151, bif D 10 then .t (.one (.iv (.lst 2 x.m (stF x.S)))) else .any), (152, bif D 11 then iA .i64 ((i2 : Int) + 1 + (t2 : Int)) else .any), (153, bif D 12 then .t (.one (.ip 2 fun o => stF x.S (i2 + 1 + t2) o)) else .any), (154, bif D 13 then .t (.one (.ip 2 fun o => stF x.S (i2 + 1 + t2) o)) else .any), (155, bif D 14 then iA .i64 (((x.S (i2 + 1 + t2)).nu)) else .any), (156, bif D 15 then iA .i64 (comX (x.O i2).k (x.O i2).o (x.O (i2 + 1 + t2)).k (x.O (i2 + 1 + t2)).o) else .any), (157, bif D 16 then iA .i64 (comY (x.O i2).k (x.O i2).o (x.O (i2 + 1 + t2)).k (x.O (i2 + 1 + t2)).o) else .any), (158, bif D 17 then .t (.agg [.iv (.g (.int .i64 ((x.S i2).nu))), .iv (.g (.int .i64 ((x.S (i2 + 1 + t2)).nu))), .iv (.g (.int .i64 (comX (x.O i2).k (x.O i2).o (x.O (i2 + 1 + t2)).k (x.O (i2 + 1 + t2)).o))), .iv (.g (.int .i64 (comY (x.O i2).k (x.O i2).o (x.O (i2 + 1 + t2)).k (x.O (i2 + 1 + t2)).o)))]) else .any), (159, bif D 18 then .t (.one (.slc 30 0 1 4)) else .any), (160, bif D 19 then .t (.one (.slc 11 0 ((clL (opP x) (hitX x) x.m i2 ++ clR (opP x) (hitX x) i2 t2).length + 1) 4)) else .any), (161, bif D 20 then .t (.one (.ptr 10 0)) else .any), (162, bif D 21 then .t (.one (.ptr 10 5)) else .any)], bif D 18 then [none, none, none, none, none, some (rowU (pst0 x.S x.m x.m)), none, none, some (rowU (foeR ((clL (opP x) (hitX x) x.m i2 ++ clR (opP x) (hitX x) i2 t2) ++ [(i2, i2 + 1 + t2)]) x.m)), none, some (bif D 22 then [.iv (.lst 9 x.n (featF x.f)), .iv (.lst 2 x.m (stF x.S)), .iv (.lst 1 x.mo (ptF x.O)), .slc 5 0 x.m 1, .slc 8 0 x.m 1, .slc 11 0 ((clL (opP x) (hitX x) x.m i2 ++ clR (opP x) (hitX x) i2 t2).length + 1) 4] else bif D 19 then [.iv (.lst 9 x.n (featF x.f)), .iv (.lst 2 x.m (stF x.S)), .iv (.lst 1 x.mo (ptF x.O)), .slc 5 0 x.m 1, .slc 8 0 x.m 1, .any] else [.iv (.lst 9 x.n (featF x.f)), .iv (.lst 2 x.m (stF x.S)), .iv (.lst 1 x.mo (ptF x.O)), .slc 5 0 x.m 1, .slc 8 0 x.m 1, .slc 11 0 (clL (opP x) (hitX x) x.m i2 ++ clR (opP x) (hitX x) i2 t2).length 4]), some (bif D 19 then rowK x ((clL (opP x) (hitX x) x.m i2 ++ clR (opP x) (hitX x) i2 t2) ++ [(i2, i2 + 1 + t2)]) else rowK x (clL (opP x) (hitX x) x.m i2 ++ clR (opP x) (hitX x) i2 t2)), none, none, none, none, none, none, none, none, none, none, none, none, none, none, none, none, none, none, some [.iv (.g (.int .i64 ((x.S i2).nu))), .iv (.g (.int .i64 ((x.S (i2 + 1 + t2)).nu))), .iv (.g (.int .i64 (comX (x.O i2).k (x.O i2).o (x.O (i2 + 1 + t2)).k (x.O (i2 + 1 + t2)).o))), .iv (.g (.int .i64 (comY (x.O i2).k (x.O i2).o (x.O (i2 + 1 + t2)).k (x.O (i2 + 1 + t2)).o)))]] else [none, none, none, none, none, some (rowU (pst0 x.S x.m x.m)), none, none, some (rowU (foeR ((clL (opP x) (hitX x) x.m i2 ++ clR (opP x) (hitX x) i2 t2) ++ [(i2, i2 + 1 + t2)]) x.m)), none, some [.iv (.lst 9 x.n (featF x.f)), .iv (.lst 2 x.m (stF x.S)), .iv (.lst 1 x.mo (ptF x.O)), .slc 5 0 x.m 1, .slc 8 0 x.m 1, .slc 11 0 (clL (opP x) (hitX x) x.m i2 ++ clR (opP x) (hitX x) i2 t2).length 4], some (rowK x (clL (opP x) (hitX x) x.m i2 ++ clR (opP x) (hitX x) i2 t2))], 165, [], LP.top⟩
attribute [go_sem] opnS
theorem geB (c : Bool) (a b : List (Option (List CV))) (k : Nat) : (bif c then a else b)[k]? = bif c then a[k]? else b[k]? := by cases c <;> rfl
theorem gdB (c : Bool) (a b : Option (Option (List CV))) : (bif c then a else b).getD none = bif c then a.getD none else b.getD none := by cases c <;> rfl
theorem hgetB (c : Bool) (a b : List (Option (List CV))) (k : Nat) : hget (bif c then a else b) k = bif c then hget a k else hget b k := by cases c <;> rfl
theorem purB (c : Bool) (a b : AV) (k : Nat) : (bif c then a else b).purge k = bif c then a.purge k else b.purge k := by cases c <;> rfl
theorem opn_t (x : CaS) (hx : x.Ok) (he : cvE x = 0) : CallsP Tryz.prog 37 [.one (.lst 9 x.n (featF x.f)), .one (.lst 2 x.m (stF x.S)), .one (.lst 1 x.mo (ptF x.O))] (.tup [.one (.ptr 6 (chC (opY x))), .one (.g (.int .i64 (0)))]) := by
  obtain ⟨hv, hfe, hmo, hop, hm, hsum⟩ := cv_ok he
  have mk0 : True := trivial
  have mk1 : True := trivial
  have mkA : True := trivial
  have mk2 : True := trivial
  have hpl : True := trivial
  have hp0 : True := trivial
  have hkn : True := trivial
  have hgp : True := trivial
  have hsr : True := trivial
  have ha1 : True := trivial
  have he1 : True := trivial
  have hxx : True := trivial
  have hyy : True := trivial
  have hf1 : True := trivial
  have hs2 : True := trivial
  have ho3 : True := trivial
  have hu3 : True := trivial
  have hf2 : True := trivial
  have hs3 : True := trivial
  have ho4 : True := trivial
  have hu4 : True := trivial
  have hg1 : True := trivial
  have hg2 : True := trivial
  have hsh : True := trivial
  have ho1 : True := trivial
  have ho2 : True := trivial
  have hst : True := trivial
  refine CallsP_of Tryz.func37 rfl (by rw [Tryz.ntmps37]; simp) ?_
  simp only [Tryz.ntmps37, zM, PT.tv, argEnv, Nat.zero_add, Nat.reduceAdd]
  repeat' (first
 | (refine callK_shr rfl rfl (by omega) ?_)
 | (refine callDK_shl rfl rfl (by omega) ?_)
 | ((with_reducible refine Need.mk ?_); exact ⟨rowU_iv _, rowU_iv _, rowK_iv _ _⟩)
 | ((with_reducible show AW _ _ _ _); first
 | (with_reducible first | refine aS (fun K hK => ?_) | refine aI ?_ | refine aX ?_ | refine aT ?_ | refine aC ?_ | refine aB ?_)
 | (first
 | (with_reducible first | refine aP (ops := #[⟨some 6, _, _, _, _, _⟩, _]) 0 [0,1,2] ?_ | refine aP (ops := #[⟨some 3, _, _, _, _, _⟩, _]) 0 [0,1] ?_ | refine aP (ops := #[⟨some 4, _, _, _, _, _⟩]) 0 [0,1] ?_ | refine aP (ops := #[⟨some 2, _, _, _, _, _⟩, _]) 0 [0,1] ?_ | refine aP (ops := #[⟨some 20, _, _, _, _, _⟩, _, _, _, _]) 1 [0,1,2] ?_ | refine aP (ops := #[⟨some 5, _, _, _, _, _⟩, _, _, _, _, _, _]) 1 [0,3] ?_ | refine aP (ops := #[⟨some 6, _, _, _, _, _⟩, _, _]) 1 [0,1] ?_ | refine aP (ops := #[⟨some 4, _, _, _, _, _⟩, _, _, _, _]) 1 [1,2] ?_ | refine aP (ops := #[⟨some 24, _, _, _, _, _⟩, _]) 2 [0,1,2,8] ?_ | refine aP (ops := #[⟨some 9, _, _, _, _, _⟩]) 2 [0,1,7,8] ?_ | refine aP (ops := #[⟨some 10, _, _, _, _, _⟩, _]) 3 [0,1,7,8] ?_ | refine aP 4 [0,1,5,7,8] ?_)
 | ((with_reducible refine aR (c := Code.region 4 _ true) [0,1,2] ?_); (with_reducible refine aD ?_ ?_ ?_ ?_); (focus kernel_rfl); (focus kernel_rfl); (focus kernel_rfl))
 | (with_reducible first | refine aP (ops := #[⟨some 38, _, _, _, _, _⟩, _, _]) 5 [1,2,9] ?_ | refine aP (ops := #[⟨some 17, _, _, _, _, _⟩, _]) 5 [5] ?_ | refine aP (ops := #[⟨some 41, _, _, _, _, _⟩]) 6 [1,2,9,38,39,40] ?_ | refine aP (ops := #[⟨some 18, _, _, _, _, _⟩, _]) 6 [0,1,7,8] ?_ | refine aP (ops := #[⟨some 42, _, _, _, _, _⟩, _, _, _, _, _]) 7 [1,2,9,38,39,40] ?_ | refine aP 8 [1,2,9,10,11,38,39,40] ?_ | refine aP 9 [1,2,9,10,38,39,40,46,47,48] ?_ | refine aP 10 [1,2,9,10,38,39,40,46,47,48] ?_ | refine aP 11 [1,2,9,10,13,38,39,40,46,47,48] ?_)
 | ((with_reducible refine aR (c := Code.region 12 _ true) [1,2,9,10,14,38,39,40,46,47,48] ?_); (with_reducible refine aD ?_ ?_ ?_ ?_); (focus kernel_rfl); (focus kernel_rfl); (focus kernel_rfl))
 | (with_reducible first | refine aP 13 [1,2,9,10,38,39,40,46,47,48] ?_ | refine aP 14 [1,2,9,38,39,40] ?_ | refine aP 15 [1,2,9] ?_ | refine aP 16 [1,2,9,77,78] ?_ | refine aP 17 [1,2,9,77,78] ?_ | refine aP 18 [1,2,9,15,77,78] ?_ | refine aP 19 [1,2,9,15,16,77,78] ?_ | refine aP 20 [1,2,9,15,16,77,78] ?_ | refine aP 21 [1,2,9,15,16,77,78] ?_)
 | ((with_reducible refine aR (c := Code.region 22 _ true) [1,2,9,15,16,77,78] ?_); (with_reducible refine aD ?_ ?_ ?_ ?_); (focus kernel_rfl); (focus kernel_rfl); (focus kernel_rfl))
 | (with_reducible refine aP 23 [1,2,9,15,16,17,18,19,77,78] ?_)
 | ((with_reducible refine aR (c := Code.region 24 _ true) [1,2,9,15,16,17,18,77,78] ?_); (with_reducible refine aD ?_ ?_ ?_ ?_); (focus kernel_rfl); (focus kernel_rfl); (focus kernel_rfl))
 | ((with_reducible refine aR (c := Code.region 25 _ true) [1,2,9,15,16,17,18,77,78] ?_); (with_reducible refine aD ?_ ?_ ?_ ?_); (focus kernel_rfl); (focus kernel_rfl); (focus kernel_rfl))
 | ((with_reducible refine aR (c := Code.region 26 _ true) [1,2,9,15,16,17,18,77,78] ?_); (with_reducible refine AW_regionT 12 [1,2,9,15,16,17,18,77,78,141,142,143,144,145,146,147,148,149,150,151,152,153,154,155,156,157,158,159,160,161,162] [([], [0,20,21,22]), ([], [1,2,3,4,19,20,21,22]), ([1], [2,3,4,19,20,21,22]), ([1,2], [3,4,19,20,21,22]), ([1,2,3], [4,19,20,21,22]), ([], [5,7,8,9,17,18,19,20,21,22]), ([], [6,7,8,9,17,18,19,20,21,22]), ([5,6], [7,8,9,17,18,19,20,21,22]), ([5,6,7], [8,9,17,18,19,20,21,22]), ([5,6,7,8], [9,17,18,19,20,21,22]), ([], [10,12,13,14,17,18,19,20,21,22]), ([], [11,12,13,14,17,18,19,20,21,22]), ([10,11], [12,13,14,17,18,19,20,21,22]), ([10,11,12], [13,14,17,18,19,20,21,22]), ([10,11,12,13], [14,17,18,19,20,21,22]), ([], [15,17,18,19,20,21,22]), ([], [16,17,18,19,20,21,22]), ([5,6,7,8,9,10,11,12,13,14,15,16], [17,18,19,20,21,22]), ([5,6,7,8,9,10,11,12,13,14,15,16,17], [18,19,20,21,22]), ([1,2,3,4,5,6,7,8,9,10,11,12,13,14,15,16,17,18], [19,20,21,22]), ([0,1,2,3,4,5,6,7,8,9,10,11,12,13,14,15,16,17,18,19], [20,21,22]), ([0,1,2,3,4,5,6,7,8,9,10,11,12,13,14,15,16,17,18,19,20], [21,22]), ([0,1,2,3,4,5,6,7,8,9,10,11,12,13,14,15,16,17,18,19,20,21], [22])] [0,1,2,3,4,5,6,7,8,9,10,11,12,13,14,15,16,17,18,19,20,21,22] (opnS x i2 t2) ?hm26 ?hb26 ?hd26 ?hc26 ?h026 ?hh26 ?ha26 ?hq26); (case' hm26 => kernel_rfl); (case' hb26 => kernel_rfl); (case' hd26 => kernel_rfl); (case' hc26 => kernel_rfl); (case' ha26 => kernel_rfl); (case' h026 => (exact ⟨rfl⟩)); (case' hh26 => (simp only [List.toList_toArray, List.length_cons, List.length_nil, Nat.reduceAdd]; repeat' (first | ((with_reducible show runD _ _ _ _ _ _ _); first | exact runD_nilI | (with_reducible refine runD_consI (fun D hT hF K hK => ?_) ?_)) | ((with_reducible show opTr _ _ _ _ _ _); (simp only [dnT, dnF, and_true] at hT hF); simp (maxSteps := 2000000) only [go_sem, reduceIte, reduceCtorEq, xA, xL, xD, xE, xM, xS, xB, Tryz.f37, Tryz.f66, Tryz.f99, Tryz.f100, stF0, stF1, ptF0, intI, he, repC_u, maxLen, rowU_len, rowU_pur, rowK_pur, rowK_len, rowK_snoc, rowK_0, hgetB, geB, gdB, purB, Bool.cond_self, rowU_frz, rowK_frz, foeR_len, List.length_set, hpl, hp0, hkn, hgp, hsr, ha1, he1, hxx, hyy, hf1, hs2, ho3, hu3, hf2, hs3, ho4, hu4, hg1, hg2, hsh, ho1, ho2, hst, hT, hF, updD]) | ((with_reducible refine hK _ ?_); clear hK K) | ((with_reducible show Leaf _ _); simp (maxSteps := 2000000) only [go_sem, reduceIte, reduceCtorEq, xA, xL, xD, xE, xM, xS, xB, Tryz.f37, Tryz.f66, Tryz.f99, Tryz.f100, stF0, stF1, ptF0, intI, he, repC_u, maxLen, rowU_len, rowU_pur, rowK_pur, rowK_len, rowK_snoc, rowK_0, hgetB, geB, gdB, purB, Bool.cond_self, rowU_frz, rowK_frz, foeR_len, List.length_set, hpl, hp0, hkn, hgp, hsr, ha1, he1, hxx, hyy, hf1, hs2, ho3, hu3, hf2, hs3, ho4, hu4, hg1, hg2, hsh, ho1, ho2, hst, hT, hF, updD]; exact ⟨rfl⟩) | ((with_reducible show Leaf _ _); cases hDu : D 0 <;> (simp (maxSteps := 2000000) only [go_sem, reduceIte, reduceCtorEq, xA, xL, xD, xE, xM, xS, xB, Tryz.f37, Tryz.f66, Tryz.f99, Tryz.f100, stF0, stF1, ptF0, intI, he, repC_u, maxLen, rowU_len, rowU_pur, rowK_pur, rowK_len, rowK_snoc, rowK_0, hgetB, geB, gdB, purB, Bool.cond_self, rowU_frz, rowK_frz, foeR_len, List.length_set, hpl, hp0, hkn, hgp, hsr, ha1, he1, hxx, hyy, hf1, hs2, ho3, hu3, hf2, hs3, ho4, hu4, hg1, hg2, hsh, ho1, ho2, hst, hT, hF, updD, hDu]; exact ⟨rfl⟩)) | (with_reducible refine And.intro ?_ ?_) | omega))); (case' hq26 => (intro D hT; simp only [dnT, and_true] at hT; simp (maxSteps := 2000000) only [go_sem, reduceIte, reduceCtorEq, xA, xL, xD, xE, xM, xS, xB, Tryz.f37, Tryz.f66, Tryz.f99, Tryz.f100, stF0, stF1, ptF0, intI, he, repC_u, maxLen, rowU_len, rowU_pur, rowK_pur, rowK_len, rowK_snoc, rowK_0, hgetB, geB, gdB, purB, Bool.cond_self, rowU_frz, rowK_frz, foeR_len, List.length_set, hpl, hp0, hkn, hgp, hsr, ha1, he1, hxx, hyy, hf1, hs2, ho3, hu3, hf2, hs3, ho4, hu4, hg1, hg2, hsh, ho1, ho2, hst, hT, updD])))
 | (with_reducible first | refine aP 27 [1,2,9,77,78] ?_ | refine AW_frz (c := Code.region 28 _ false) [5,8,11] ?_ (aP 28 [9] ?_)))
 | ((with_reducible show AW _ (Code.loop _) _ _); first
 | ((with_reducible refine aL (c := (Code.seq (Code.region 6 _ _) _)) (ι := Nat) [1,2,9,38,39] (fun i => [(40, iA .i64 (i : Int))]) (fun i => [(5, rowU (pst0 x.S x.m i))]) (fun i => i ≤ x.m) (fun i => x.m - i) 0 ?lg6 ?l16 ?l26 ?li6 ?lr6); (case' lg6 => rintro i _); (case' li6 => try (omega)); (case' lr6 => rintro i hi KR hR6; simp only [keepE, hupd, hset, lk, if_true, if_false, xE, reduceIte, zN, stF0, stF1, ptF0, he, repC_u, maxLen, rowU_len, rowU_pur, rowK_pur, rowK_len, rowK_snoc, rowK_0, hgetB, geB, gdB, purB, Bool.cond_self, rowU_frz, rowK_frz, foeR_len, List.length_set, hpl, hp0, hkn, hgp, hsr, ha1, he1, hxx, hyy, hf1, hs2, ho3, hu3, hf2, hs3, ho4, hu4, hg1, hg2, hsh, ho1, ho2, hst]))
 | ((with_reducible refine aL (c := (Code.seq (Code.region 9 _ _) _)) (ι := Nat) [1,2,9,10,38,39,40,46,47] (fun j => [(48, iA .i64 (j : Int))]) (fun j => [(5, rowU (pstR x.S x.m i (orJ x.S x.m i (pstL x.S x.m i) j)))]) (fun j => j ≤ (x.S i).q) (fun j => (x.S i).q - j) 0 ?lg9 ?l19 ?l29 ?li9 ?lr9); (case' lg9 => rintro j _); (case' li9 => try (omega)); (case' lr9 => rintro j hj KR hR9; simp only [keepE, hupd, hset, lk, if_true, if_false, xE, reduceIte, zN, stF0, stF1, ptF0, he, repC_u, maxLen, rowU_len, rowU_pur, rowK_pur, rowK_len, rowK_snoc, rowK_0, hgetB, geB, gdB, purB, Bool.cond_self, rowU_frz, rowK_frz, foeR_len, List.length_set, hpl, hp0, hkn, hgp, hsr, ha1, he1, hxx, hyy, hf1, hs2, ho3, hu3, hf2, hs3, ho4, hu4, hg1, hg2, hsh, ho1, ho2, hst]))
 | ((with_reducible refine aL (c := (Code.seq (Code.region 2 _ _) _)) (ι := Nat) [0,1,7] (fun t => [(8, iA .i64 (t : Int))]) (fun t => []) (fun t => t ≤ x.m ∧ (∀ t', t' < t → (x.S t').nu ≠ (x.S i).a j)) (fun t => x.m - t) 0 ?lg2 ?l12 ?l22 ?li2 ?lr2); (case' lg2 => rintro t _); (case' li2 => try (exact ⟨Nat.zero_le _, fun i hi => absurd hi (Nat.not_lt_zero _)⟩)); (case' lr2 => rintro t ⟨ht, hat⟩ KR hR2; simp only [keepE, hupd, hset, lk, if_true, if_false, xE, reduceIte, zN, stF0, stF1, ptF0, he, repC_u, maxLen, rowU_len, rowU_pur, rowK_pur, rowK_len, rowK_snoc, rowK_0, hgetB, geB, gdB, purB, Bool.cond_self, rowU_frz, rowK_frz, foeR_len, List.length_set, hpl, hp0, hkn, hgp, hsr, ha1, he1, hxx, hyy, hf1, hs2, ho3, hu3, hf2, hs3, ho4, hu4, hg1, hg2, hsh, ho1, ho2, hst]))
 | ((with_reducible refine aL (c := (Code.seq (Code.region 16 _ _) _)) (ι := Nat) [1,2,9,77] (fun i2 => [(78, iA .i64 (i2 : Int))]) (fun i2 => [(8, rowU (foeR (clL (opP x) (hitX x) x.m i2) x.m)), (10, [.iv (.lst 9 x.n (featF x.f)), .iv (.lst 2 x.m (stF x.S)), .iv (.lst 1 x.mo (ptF x.O)), .slc 5 0 x.m 1, .slc 8 0 x.m 1, .slc 11 0 (clL (opP x) (hitX x) x.m i2).length 4]), (11, rowK x (clL (opP x) (hitX x) x.m i2))]) (fun i2 => i2 ≤ x.m) (fun i2 => x.m - i2) 0 ?lg16 ?l116 ?l216 ?li16 ?lr16); (case' lg16 => rintro i2 _); (case' li16 => try (omega)); (case' lr16 => rintro i2 hi2 KR hR16; simp only [keepE, hupd, hset, lk, if_true, if_false, xE, reduceIte, zN, stF0, stF1, ptF0, he, repC_u, maxLen, rowU_len, rowU_pur, rowK_pur, rowK_len, rowK_snoc, rowK_0, hgetB, geB, gdB, purB, Bool.cond_self, rowU_frz, rowK_frz, foeR_len, List.length_set, hpl, hp0, hkn, hgp, hsr, ha1, he1, hxx, hyy, hf1, hs2, ho3, hu3, hf2, hs3, ho4, hu4, hg1, hg2, hsh, ho1, ho2, hst]))
 | ((with_reducible refine aL (c := (Code.seq (Code.seq (Code.region 19 _ _) _) _)) (ι := Nat) [1,2,9,15,77,78] (fun t2 => [(16, iA .i64 ((i2 : Int) + 1 + (t2 : Int)))]) (fun t2 => [(8, rowU (foeR (clL (opP x) (hitX x) x.m i2 ++ clR (opP x) (hitX x) i2 t2) x.m)), (10, [.iv (.lst 9 x.n (featF x.f)), .iv (.lst 2 x.m (stF x.S)), .iv (.lst 1 x.mo (ptF x.O)), .slc 5 0 x.m 1, .slc 8 0 x.m 1, .slc 11 0 (clL (opP x) (hitX x) x.m i2 ++ clR (opP x) (hitX x) i2 t2).length 4]), (11, rowK x (clL (opP x) (hitX x) x.m i2 ++ clR (opP x) (hitX x) i2 t2))]) (fun t2 => i2 + 1 + t2 ≤ x.m) (fun t2 => x.m - (i2 + 1 + t2)) 0 ?lg19 ?l119 ?l219 ?li19 ?lr19); (case' lg19 => rintro t2 _); (case' li19 => try (omega)); (case' lr19 => rintro t2 ht2 KR hR19; simp only [keepE, hupd, hset, lk, if_true, if_false, xE, reduceIte, zN, stF0, stF1, ptF0, he, repC_u, maxLen, rowU_len, rowU_pur, rowK_pur, rowK_len, rowK_snoc, rowK_0, hgetB, geB, gdB, purB, Bool.cond_self, rowU_frz, rowK_frz, foeR_len, List.length_set, hpl, hp0, hkn, hgp, hsr, ha1, he1, hxx, hyy, hf1, hs2, ho3, hu3, hf2, hs3, ho4, hu4, hg1, hg2, hsh, ho1, ho2, hst]))))
 | ((first | (with_reducible refine And.intro ?_ ?_) | (with_reducible refine Need.mk ?_)); focus (first | exact True.intro | (with_reducible assumption) | omega | (simp; done)))
 | (with_reducible refine retK_n ?_)
 | ((with_reducible show condN _ _ _ _ _ _); first
 | ((with_reducible refine condN_t ?_ ?_) <;> (intro hc; (try simp only [zB, zC, reduceCtorEq] at hc); ((try (clear mk0; have hxq := hx.q i (by omega); have hex := st_ex hv (i := i) (j := j) (by omega) (by omega))); (try (exfalso; obtain ⟨t0, h1, h2⟩ := hex; exact hat t0 (by omega) h2)); (try (clear mk1 hpl hg1 hg2 hsh ho1 ho2 hst; have hk := ix_of (S := x.S) (m := x.m) (by omega) hc hat; have hti : t < i := (by obtain ⟨t0, h1, h2⟩ := hex; exact (Nat.lt_or_ge t i).elim id (fun g => absurd h2 (hat t0 (by omega)))); obtain ⟨hg1, hg2, ho1, ho2, hst⟩ := pst_facts hv hm (i := i) (j := j) (by omega) (by omega) hti hk; have hpl := pstR_len x.S (m := x.m) (i := i) (orJ x.S x.m i (pstL x.S x.m i) j) (by omega); have hsh := u_shl6 (k := t) (by omega))); (try (clear mkA hp0; have e0 : i = x.m := (by omega); subst e0; have hp0 := pst0_len x.S (Nat.le_refl x.m))); (try (clear mk2 hkn hgp hsr ha1 he1 hxx hyy hf1 hs2 ho3 hu3 hf2 hs3 ho4 hu4; have hkm : (i2 + 1 + t2) < x.m := (by omega); have hkn : ((i2 : Int) + 1 + (t2 : Int)).toNat = (i2 + 1 + t2) := (by omega); have hgp := past_at (S := x.S) hkm; have hp2 : pstN x.S x.m (i2 + 1 + t2) < 1024 := lt2_10 (k := (i2 + 1 + t2)) (by omega) (pstN_lt hv hm hkm); have hsr := u_shr6 (pstN x.S x.m (i2 + 1 + t2)) i2 (by omega); have ha1 := u_and1 (shr_lt i2 (x := pstN x.S x.m (i2 + 1 + t2)) (by omega)); have hv1 := hop i2 (by omega); have hv2 := hop (i2 + 1 + t2) (by omega); have he1 : CmE (x.O i2).k (x.O i2).o (x.O (i2 + 1 + t2)).k (x.O (i2 + 1 + t2)).o = 0 := if_pos ⟨hv1, hv2⟩; have hxx : CmX (x.O i2).k (x.O i2).o (x.O (i2 + 1 + t2)).k (x.O (i2 + 1 + t2)).o = comX (x.O i2).k (x.O i2).o (x.O (i2 + 1 + t2)).k (x.O (i2 + 1 + t2)).o := if_pos ⟨hv1, hv2⟩; have hyy : CmY (x.O i2).k (x.O i2).o (x.O (i2 + 1 + t2)).k (x.O (i2 + 1 + t2)).o = comY (x.O i2).k (x.O i2).o (x.O (i2 + 1 + t2)).k (x.O (i2 + 1 + t2)).o := if_pos ⟨hv1, hv2⟩; obtain ⟨hf1, ho3, hu3, hf2, ho4, hu4⟩ := foe_facts hm (i := i2) (k := (i2 + 1 + t2)) (by omega) hkm (fun p hp => clL_lt (P := opP x) (X := hitX x) (k := i2) (t := t2) (by omega) (by omega) hp); have hs2 := u_shl6 (k := (i2 + 1 + t2)) (by omega); have hs3 := u_shl6 (k := i2) (by omega); have hll := clD_len (P := opP x) (X := hitX x) hm (i := i2) (t := t2) (by omega) (by omega)))); (try (exfalso; contradiction)))))
 | ((with_reducible refine And.intro ?_ ?_); focus ((with_reducible show chkR _ _ _ = true); kernel_rfl))
 | ((with_reducible show callN _ _ _ _ _ _ _ _ _ _); first
 | (refine callN_q (k := 65) fnok_65 (cval_p x hx) ?_ ?_)
 | ((refine callN_i (k := 66) Tryz.func66 rfl fnok_66 (by rw [Tryz.ntmps66]; simp) ?_ ?_ (fun K hK => ?_)); (focus (exact True.intro)); (focus ((simp [lsF]; done))); simp only [Tryz.ntmps66, List.map_cons, List.map_nil, List.nil_append, List.cons_append, List.append_nil, LV.tv, argEnv, Nat.zero_add, Nat.reduceAdd])
 | ((refine callN_i (k := 99) Tryz.func99 rfl fnok_99 (by rw [Tryz.ntmps99]; simp) ?_ ?_ (fun K hK => ?_)); (focus (exact True.intro)); (focus ((simp [lsF]; done))); simp only [Tryz.ntmps99, List.map_cons, List.map_nil, List.nil_append, List.cons_append, List.append_nil, LV.tv, argEnv, Nat.zero_add, Nat.reduceAdd])
 | ((refine callN_ic (k := 100) Tryz.func100 rfl fnok_100 (by rw [Tryz.ntmps100]; simp) ?_ ?_ (fun K hK => ?_)); (focus (exact True.intro)); (focus ((simp [lsF]; done))); simp only [Tryz.ntmps100, List.map_cons, List.map_nil, List.nil_append, List.cons_append, List.append_nil, LV.tv, argEnv, Nat.zero_add, Nat.reduceAdd]))
 | ((with_reducible show callDN _ _ _ _ _ _ _ _ _ _ _ _ _); first
 | (refine callDN_q (k := 67) fnok_67 (comm_p (x.O i2).k (x.O i2).o (x.O (i2 + 1 + t2)).k (x.O (i2 + 1 + t2)).o (hx.k i2 (by omega)) (hx.o i2 (by omega)) (hx.k (i2 + 1 + t2) (by omega)) (hx.o (i2 + 1 + t2) (by omega))) ?_ ?_))
 | ((with_reducible refine hR6 _ (i + 1) ?_); (try clear hR6 KR))
 | ((with_reducible refine hR9 _ (j + 1) ?_); (try clear hR9 KR))
 | ((with_reducible refine hR2 _ (t + 1) ?_); (try clear hR2 KR))
 | ((with_reducible refine hR16 _ (i2 + 1) ?_); (try clear hR16 KR))
 | ((with_reducible refine hR19 _ (t2 + 1) ?_); (try clear hR19 KR))
 | ((with_reducible refine Told.mk ?_); simp only [go_sem, reduceIte, reduceCtorEq, xA, xL, xD, xE, xM, xS, xB, stF0, stF1, ptF0, intI, he, repC_u, maxLen, rowU_len, rowU_pur, rowK_pur, rowK_len, rowK_snoc, rowK_0, hgetB, geB, gdB, purB, Bool.cond_self, rowU_frz, rowK_frz, foeR_len, List.length_set, hpl, hp0, hkn, hgp, hsr, ha1, he1, hxx, hyy, hf1, hs2, ho3, hu3, hf2, hs3, ho4, hu4, hg1, hg2, hsh, ho1, ho2, hst] <;> (first | (((try simp (disch := omega) only [seaWrap, Int.natCast_add, Int.cast_ofNat_Int, and_true, true_and, and_self]); (repeat' (first | omega | rfl | (with_reducible refine And.intro ?_ ?_) | (exact all_succ (by assumption) (by assumption)) | ((exact wkC_eq rfl (rowU_iv _))) | ((rw [show j = (x.S i).q by omega, pstR_0]; exact wkC_eq rfl (rowU_iv _))))); done)) | (((try simp (disch := omega) only [seaWrap, Int.natCast_add, Int.cast_ofNat_Int, and_true, true_and, and_self]); (repeat' (first | omega | rfl | (with_reducible refine And.intro ?_ ?_) | ((exact wkC_eq rfl (rowU_iv _))) | ((rw [pst0_R _ (by omega)]; exact wkC_eq rfl (rowU_iv _))))); done)) | (((try simp (disch := omega) only [seaWrap, Int.natCast_add, Int.cast_ofNat_Int, and_true, true_and, and_self]); (repeat' (first | omega | rfl | (with_reducible refine And.intro ?_ ?_) | ((exact wkC_eq rfl (rowU_iv _))) | ((rw [show t2 = x.m - (i2 + 1) by omega]; exact wkC_eq rfl (rowU_iv _))) | ((rw [show t2 = x.m - (i2 + 1) by omega]; exact wkC_eq rfl (rowK_iv _ _))) | ((rw [show t2 = x.m - (i2 + 1) by omega]; rfl)) | ((exact wkC_eq (by rw [← foeR_nil]; rfl) (rowU_iv _))))); done)) | (((try simp (disch := omega) only [seaWrap, Int.natCast_add, Int.cast_ofNat_Int, and_true, true_and, and_self]); (repeat' (first | omega | (with_reducible refine And.intro ?_ ?_) | ((exact wkC_eq rfl (rowU_iv _))) | ((rw [clR_0, List.append_nil]; exact wkC_eq rfl (rowU_iv _))) | ((rw [clR_0, List.append_nil]; exact wkC_eq rfl (rowK_iv _ _))) | ((rw [clR_0, List.append_nil])) | ((rw [clD_f1 (by assumption)]; first | done | exact wkC_eq rfl (rowU_iv _) | exact wkC_eq rfl (rowK_iv _ _))) | ((rw [clD_f2 (hc.resolve_left (fun h => h rfl))]; first | done | exact wkC_eq rfl (rowU_iv _) | exact wkC_eq rfl (rowK_iv _ _))) | ((rw [clD_t (by assumption) hc.2]; first | exact wkC_eq rfl (rowU_iv _) | exact wkC_eq rfl (rowK_iv _ _) | exact congrArg (fun n => CV.slc 11 0 n 4) (len_sP _ _).symm)))); done))))
 | ((fail_if_success (with_reducible show AW _ _ _ _)); simp (maxSteps := 2000000) only [go_sem, reduceIte, reduceCtorEq, xA, xL, xD, xE, xM, xS, xB, Tryz.f37, Tryz.f66, Tryz.f99, Tryz.f100, stF0, stF1, ptF0, intI, he, repC_u, maxLen, rowU_len, rowU_pur, rowK_pur, rowK_len, rowK_snoc, rowK_0, hgetB, geB, gdB, purB, Bool.cond_self, rowU_frz, rowK_frz, foeR_len, List.length_set, hpl, hp0, hkn, hgp, hsr, ha1, he1, hxx, hyy, hf1, hs2, ho3, hu3, hf2, hs3, ho4, hu4, hg1, hg2, hsh, ho1, ho2, hst])
 | ((fail_if_success (with_reducible show AW _ _ _ _)); simp (disch := omega) only [seaWrap, seaDiv, seaMod])
 | ((with_reducible refine hK _ ?_); clear hK K)
 | (with_reducible apply_assumption -exfalso only [*]))
  all_goals first
    | (have e0 : i2 = x.m := (by omega)
       subst e0
       intro o ho
       rcases (by omega : o = 0 ∨ o = 1 ∨ o = 2 ∨ o = 3 ∨ o = 4 ∨ o = 5) with rfl | rfl | rfl | rfl | rfl | rfl
       · exact IV.eqv_refl _
       · exact IV.eqv_refl _
       · exact IV.eqv_refl _
       · exact ⟨rfl, rfl, fun i o hi ho => row_uE (l := pst0 x.S x.m x.m) (F := opP x) (fun i hi => by rw [pst0_m]; rfl) i o (by rw [hp0]; exact hi) ho⟩
       · exact ⟨rfl, rfl, fun i o hi ho => row_uE (l := foeR (opL x) x.m) (F := foeN (opL x)) (fun i hi => foeR_at _ (by simpa [foeR] using hi)) i o (by rw [foeR_len]; exact hi) ho⟩
       · exact ⟨rfl, rfl, fun i o hi ho => row_kE (x := x) (L := opL x) i o hi ho⟩)
    | skip
end Go.Proofs.YtmnejmpjmniiiaaGreatDoor
set_option maxRecDepth 100000
set_option maxHeartbeats 4000000
namespace Go.Proofs.YtmnejmpjmniiiaaGreatDoor
open Go.RowKit Go.Sea
open Nat renaming reduceAdd → xA, reduceLT → xL, reduceLeDiff → xD, reduceEqDiff → xE, reduceMul → xM, reduceSub → xS, reduceBEq → xB
theorem fnok_37 : fnOk Tryz.prog 37 = true := by kernel_rfl
theorem fnok_41 : fnOk Tryz.prog 41 = true := by kernel_rfl
theorem fnok_48 : fnOk Tryz.prog 48 = true := by kernel_rfl
theorem fnok_73 : fnOk Tryz.prog 73 = true := by kernel_rfl
theorem fnok_74 : fnOk Tryz.prog 74 = true := by kernel_rfl
theorem fnok_75 : fnOk Tryz.prog 75 = true := by kernel_rfl
attribute [go_sem] fnok_37 fnok_41 fnok_48 fnok_73 fnok_75
def askE (x : CaS) (q : Nat) (a : Nat → Int) : Int := if cvE x = 1 then 1 else if setB x.S x.m q a = false then 1 else cvE x
def askS (x : CaS) (q : Nat) (a : Nat → Int) : Nat := rdN x.S x.m a q
def askB (x : CaS) (q : Nat) (a : Nat → Int) : Bool := if askE x q a = 0 then behB (opY x) (askS x q a) else false
def askN (x : CaS) (q : Nat) (a : Nat → Int) : Nat := if askE x q a = 0 then behN (opY x) (askS x q a) else 0
def askF (x : CaS) (q : Nat) (a : Nat → Int) : Nat → Feat := behF (opY x) (askS x q a)
theorem ask_e {x : CaS} {q : Nat} {a : Nat → Int} (h : askE x q a ≠ 0) : askN x q a = 0 ∧ askB x q a = false := by
  unfold askN askB; rw [if_neg h, if_neg h]; exact ⟨rfl, rfl⟩
theorem ask_1 {x : CaS} {q : Nat} {a : Nat → Int} (h : cvE x = 1) : askE x q a = 1 := if_pos h
theorem ask_s {x : CaS} {q : Nat} {a : Nat → Int} (h : setB x.S x.m q a = false) : askE x q a = 1 := by unfold askE; rw [if_pos h]; split <;> rfl
theorem ask_2 {x : CaS} {q : Nat} {a : Nat → Int} (h : cvE x ≠ 1) (h2 : setB x.S x.m q a = true) : askE x q a = cvE x := by unfold askE; rw [if_neg h, if_neg (by rw [h2]; simp)]
theorem ask_0 {x : CaS} {q : Nat} {a : Nat → Int} (h : cvE x = 0) (h2 : setB x.S x.m q a = true) : askN x q a = behN (opY x) (rdV x.S x.m q a) ∧ askB x q a = behB (opY x) (rdV x.S x.m q a) ∧ askF x q a = behF (opY x) (rdV x.S x.m q a) ∧ askE x q a = 0 := by
  have e : askE x q a = 0 := by rw [ask_2 (by omega) h2, h]
  have e2 : askS x q a = rdV x.S x.m q a := by unfold askS rdV; rw [h2]; rfl
  unfold askN askB askF
  rw [if_pos e, if_pos e, e2]; exact ⟨rfl, rfl, rfl, e⟩
theorem rdV_in {x : CaS} {q : Nat} {a : Nat → Int} (h2 : setB x.S x.m q a = true) : inS x.m (rdV x.S x.m q a) := by
  unfold rdV; rw [if_pos h2]; exact rdN_in (of_decide_eq_true h2)
theorem setF {S : Nat → StepS} {m q : Nat} {a : Nat → Int} {j : Nat} (hj : (j : Int) < q) (h : ¬ setP S m a j) : setB S m q a = false := decide_eq_false fun g => h (g j (by omega))
theorem setT {S : Nat → StepS} {m q : Nat} {a : Nat → Int} {j : Nat} (hj : (q : Int) ≤ j) (h : ∀ i, i < j → setP S m a i) : setB S m q a = true := decide_eq_true fun i hi => h i (by omega)
theorem ix_no {S : Nat → StepS} {m t : Nat} {x : Int} (ht : (m : Int) ≤ t) (g : ∀ j, j < t → (S j).nu ≠ x) : m ≤ ixM S m x := by
  have e : ixM S m x = m := fstB_t m fun j hj => decide_eq_false (g j (by omega))
  omega
def prN (x : CaS) : Nat := if cvE x = 0 then (opL x).length else 0
def prC (x : CaS) (i o : Nat) : IV := clsC x ((opL x).getD i (0, 0)) o
theorem prN_f {x : CaS} (h : cvE x ≠ 0) : prN x = 0 := if_neg h
theorem prN_t {x : CaS} (h : cvE x = 0) : prN x = (opL x).length := if_pos h
def reE (x : CaS) (q : Nat) (a : Nat → Int) : Int := if askE x q a ≠ 0 then askE x q a else if askB x q a = true then 0 else 15
def reN (x : CaS) (q : Nat) (a : Nat → Int) : Nat := if askB x q a = true then askN x q a else 0
theorem re_1 {x : CaS} {q : Nat} {a : Nat → Int} (h : askE x q a ≠ 0) : reE x q a = askE x q a ∧ reN x q a = 0 := by
  unfold reE reN; rw [if_pos h, (ask_e h).2]; exact ⟨rfl, rfl⟩
theorem re_2 {x : CaS} {q : Nat} {a : Nat → Int} (h : askE x q a = 0) (h2 : askB x q a = false) : reE x q a = 15 ∧ reN x q a = 0 := by
  unfold reE reN; rw [if_neg (by omega), h2]; exact ⟨rfl, rfl⟩
theorem re_3 {x : CaS} {q : Nat} {a : Nat → Int} (h : askE x q a = 0) (h2 : askB x q a = true) : reE x q a = 0 ∧ reN x q a = askN x q a := by
  unfold reE reN; rw [if_neg (by omega), h2]; exact ⟨rfl, rfl⟩
theorem nil_eqv (f : Nat → Feat) : PT.eqv (.one (.g (.slice none 0 0))) (.one (.lst 9 0 (featF f))) := ⟨rfl, rfl⟩
theorem opn_fn (x : CaS) (hx : x.Ok) (h0 : x.n = 0) (he : cvE x ≠ 0) : CallsP Tryz.prog 37 [.one (.g (.slice none 0 0)), .one (.lst 2 x.m (stF x.S)), .one (.lst 1 x.mo (ptF x.O))] (.tup [.one (.g (.pointer none)), .one (.g (.int .i64 (cvE x)))]) := (opn_f x hx he).eqv ⟨by rw [h0]; exact nil_eqv _, PT.eqv_refl _, PT.eqv_refl _, trivial⟩ (PV.eqv_refl _)
theorem opn_tn (x : CaS) (hx : x.Ok) (h0 : x.n = 0) (he : cvE x = 0) : CallsP Tryz.prog 37 [.one (.g (.slice none 0 0)), .one (.lst 2 x.m (stF x.S)), .one (.lst 1 x.mo (ptF x.O))] (.tup [.one (.ptr 6 (chC (opY x))), .one (.g (.int .i64 (0)))]) := (opn_t x hx he).eqv ⟨by rw [h0]; exact nil_eqv _, PT.eqv_refl _, PT.eqv_refl _, trivial⟩ (PV.eqv_refl _)
theorem prs_f (x : CaS) (hx : x.Ok) (h0 : x.n = 0) (he : cvE x ≠ 0) : CallsP Tryz.prog 12 [.one (.lst 2 x.m (stF x.S)), .one (.lst 1 x.mo (ptF x.O))] (.tup [.one (.lst 4 (prN x) (prC x)), .one (.g (.int .i64 (cvE x)))]) := by
  refine CallsP_of Tryz.func12 rfl (by rw [Tryz.ntmps12]; simp) ?_
  simp only [Tryz.ntmps12, zM, PT.tv, argEnv, Nat.zero_add, Nat.reduceAdd]
  repeat' (first
 | ((with_reducible show AW _ _ _ _); first
 | (with_reducible first | refine aS (fun K hK => ?_) | refine aT ?_ | refine aC ?_)
 | (first
 | (with_reducible first | refine aP 0 [0,1] ?_ | refine aP 1 [0,1] ?_ | refine aP 2 [6,7] ?_ | refine aP 3 [7] ?_)))
 | (((with_reducible refine Need.mk ?_)); focus (exact True.intro))
 | (with_reducible refine retK_n ?_)
 | ((with_reducible show condN _ _ _ _ _ _); first
 | ((with_reducible refine condN_t ?_ ?_) <;> (intro hc; (try simp only [zB, zC, reduceCtorEq] at hc); (try (exfalso; contradiction)))))
 | ((with_reducible show callN _ _ _ _ _ _ _ _ _ _); first
 | (refine callN_q (k := 37) fnok_37 (opn_fn x hx h0 he) ?_ ?_))
 | ((fail_if_success (with_reducible show AW _ _ _ _)); simp (maxSteps := 2000000) only [go_sem, reduceIte, reduceCtorEq, xA, xL, xD, xE, xM, xS, xB, Tryz.f12])
 | ((with_reducible refine hK _ ?_); clear hK K))
  all_goals (exact prN_f he)
theorem prs_t (x : CaS) (hx : x.Ok) (h0 : x.n = 0) (he : cvE x = 0) : CallsP Tryz.prog 12 [.one (.lst 2 x.m (stF x.S)), .one (.lst 1 x.mo (ptF x.O))] (.tup [.one (.lst 4 (prN x) (prC x)), .one (.g (.int .i64 (cvE x)))]) := by
  refine CallsP_of Tryz.func12 rfl (by rw [Tryz.ntmps12]; simp) ?_
  simp only [Tryz.ntmps12, zM, PT.tv, argEnv, Nat.zero_add, Nat.reduceAdd]
  repeat' (first
 | ((with_reducible show AW _ _ _ _); first
 | (with_reducible first | refine aS (fun K hK => ?_) | refine aI ?_ | refine aT ?_ | refine aC ?_)
 | (first
 | (with_reducible first | refine aP 0 [0,1] ?_ | refine aP 1 [0,1] ?_ | refine aP 2 [6,7] ?_ | refine aP 4 [6] ?_)))
 | ((first | (with_reducible refine And.intro ?_ ?_) | (with_reducible refine Need.mk ?_)); focus (exact True.intro))
 | (with_reducible refine retK_n ?_)
 | ((with_reducible show condN _ _ _ _ _ _); first
 | ((with_reducible refine condN_t ?_ ?_) <;> (intro hc; (try simp only [zB, zC, reduceCtorEq] at hc); (try (exfalso; contradiction)))))
 | ((with_reducible show callN _ _ _ _ _ _ _ _ _ _); first
 | (refine callN_q (k := 37) fnok_37 (opn_tn x hx h0 he) ?_ ?_))
 | ((fail_if_success (with_reducible show AW _ _ _ _)); simp (maxSteps := 2000000) only [go_sem, reduceIte, reduceCtorEq, xA, xL, xD, xE, xM, xS, xB, Tryz.f12, he, chC5, chC])
 | ((with_reducible refine hK _ ?_); clear hK K))
  all_goals ((rw [prN_t he]; exact ⟨rfl, fun i o _ _ => IV.eqv_refl _⟩))
theorem prs_p (x : CaS) (hx : x.Ok) (h0 : x.n = 0) : CallsP Tryz.prog 12 [.one (.lst 2 x.m (stF x.S)), .one (.lst 1 x.mo (ptF x.O))] (.tup [.one (.lst 4 (prN x) (prC x)), .one (.g (.int .i64 (cvE x)))]) := by
  by_cases he : cvE x = 0
  · exact prs_t x hx h0 he
  · exact prs_f x hx h0 he
theorem ask_a (x : CaS) (hx : x.Ok) (q : Nat) (a : Nat → Int) (hqq : q ≤ 9223372036854775807) (he : cvE x = 1) : CallsP Tryz.prog 41 [.one (.lst 9 x.n (featF x.f)), .one (.lst 2 x.m (stF x.S)), .one (.lst 1 x.mo (ptF x.O)), .one (.lst 1 q (intI a))] (.tup [.one (.lst 9 (askN x q a) (featF (askF x q a))), .one (.g (.bool (askB x q a))), .one (.g (.int .i64 (askE x q a)))]) := by
  refine CallsP_of Tryz.func41 rfl (by rw [Tryz.ntmps41]; simp) ?_
  simp only [Tryz.ntmps41, zM, PT.tv, argEnv, Nat.zero_add, Nat.reduceAdd]
  repeat' (first
 | ((with_reducible show AW _ _ _ _); first
 | (with_reducible first | refine aS (fun K hK => ?_) | refine aT ?_ | refine aC ?_)
 | (first
 | (with_reducible first | refine aP 0 [0,1,2,3] ?_ | refine aP 1 [0,1,2,3] ?_ | refine aP 2 [0,1,2,3,11] ?_ | refine aP 3 [11] ?_)))
 | ((first | (with_reducible refine And.intro ?_ ?_) | (with_reducible refine Need.mk ?_)); focus (exact True.intro))
 | (with_reducible refine retK_n ?_)
 | ((with_reducible show condN _ _ _ _ _ _); first
 | ((with_reducible refine condN_t ?_ ?_) <;> (intro hc; (try simp only [zB, zC, reduceCtorEq] at hc); (try (exfalso; contradiction)))))
 | ((with_reducible show callN _ _ _ _ _ _ _ _ _ _); first
 | (refine callN_q (k := 65) fnok_65 (cval_p x hx) ?_ ?_))
 | ((fail_if_success (with_reducible show AW _ _ _ _)); simp (maxSteps := 2000000) only [go_sem, reduceIte, reduceCtorEq, xA, xL, xD, xE, xM, xS, xB, Tryz.f41, he])
 | ((with_reducible refine hK _ ?_); clear hK K))
  all_goals ((have e := ask_1 (q := q) (a := a) he; have e2 := ask_e (x := x) (q := q) (a := a) (by omega); rw [e, e2.1, e2.2]; exact ⟨rfl, rfl, rfl⟩))
theorem ask_b (x : CaS) (hx : x.Ok) (q : Nat) (a : Nat → Int) (hqq : q ≤ 9223372036854775807) (he : cvE x ≠ 1) (he0 : cvE x ≠ 0) : CallsP Tryz.prog 41 [.one (.lst 9 x.n (featF x.f)), .one (.lst 2 x.m (stF x.S)), .one (.lst 1 x.mo (ptF x.O)), .one (.lst 1 q (intI a))] (.tup [.one (.lst 9 (askN x q a) (featF (askF x q a))), .one (.g (.bool (askB x q a))), .one (.g (.int .i64 (askE x q a)))]) := by
  have hxm := hx.m
  have mk0 : True := trivial
  have hle : True := trivial
  have hst : True := trivial
  have hsq : True := trivial
  refine CallsP_of Tryz.func41 rfl (by rw [Tryz.ntmps41]; simp) ?_
  simp only [Tryz.ntmps41, zM, PT.tv, argEnv, Nat.zero_add, Nat.reduceAdd]
  repeat' (first
 | ((with_reducible show callGN _ _ false _ _ _ _ _ _ _); (with_reducible refine callGN_sq (fun h => by cases h) (fun _ => ?_)))
 | ((with_reducible show callGK _ _ false _ _ _ _); (with_reducible refine callGK_s (fun h => by cases h) (fun _ => ?_)))
 | ((with_reducible show callGN _ _ true _ _ _ _ _ _ _); (with_reducible refine callGN_sq (fun _ => ?_) (fun h => by cases h)))
 | ((with_reducible show AW _ _ _ _); first
 | (with_reducible first | refine aS (fun K hK => ?_) | refine aI ?_ | refine aX ?_ | refine aT ?_ | refine aC ?_ | refine aB ?_)
 | (first
 | (with_reducible first | refine aP 0 [0,1,2,3] ?_ | refine aP (ops := #[⟨some 19, _, _, _, _, _⟩, _, _, _, _]) 1 [0,1,2,3] ?_ | refine aP (ops := #[⟨some 5, _, _, _, _, _⟩, _, _, _, _]) 1 [0,1] ?_ | refine aP (ops := #[⟨some 6, _, _, _, _, _⟩, _, _]) 1 [0,1] ?_ | refine aP (ops := #[⟨some 4, _, _, _, _, _⟩, _, _, _, _]) 1 [1,2] ?_ | refine aP (ops := #[⟨some 23, _, _, _, _, _⟩, _]) 2 [0,1,2,3,11] ?_ | refine aP (ops := #[⟨some 9, _, _, _, _, _⟩]) 2 [0,1,7,8] ?_ | refine aP (ops := #[⟨some 10, _, _, _, _, _⟩, _]) 3 [0,1,7,8] ?_ | refine aP (ops := #[⟨some 12, _, _, _, _, _⟩]) 4 [0,1,2,3] ?_ | refine aP (ops := #[⟨some 11, _, _, _, _, _⟩, _, _, _, _, _]) 4 [0,1,5,7,8] ?_ | refine aP (ops := #[⟨some 26, _, _, _, _, _⟩, _, _]) 5 [0,1,2,3,12] ?_ | refine aP (ops := #[⟨some 17, _, _, _, _, _⟩, _]) 5 [5] ?_ | refine aP (ops := #[⟨some 29, _, _, _, _, _⟩]) 6 [0,1,2,3,12,26,27,28] ?_ | refine aP (ops := #[⟨some 18, _, _, _, _, _⟩, _]) 6 [0,1,7,8] ?_ | refine aP (ops := #[⟨some 30, _, _, _, _, _⟩, _, _, _]) 7 [0,1,2,3,12,26,27,28] ?_ | refine aP (ops := #[⟨some 4, _, _, _, _, _⟩]) 7 [] ?_ | refine aP 8 [0,1,2,3,12,14,26,27,28] ?_ | refine aP 9 [] ?_ | refine aP 10 [0,1,2,3,14,26,27,28] ?_ | refine aP 11 [0,1,2,3,12,26,27,28] ?_ | refine aP 12 [0,1,2,3] ?_ | refine aP 13 [3,11,15] ?_ | refine aP 14 [11] ?_))
 | ((with_reducible show AW _ (Code.loop _) _ _); first
 | ((with_reducible refine aL (c := (Code.seq (Code.region 6 _ _) _)) (ι := Nat) [0,1,2,3,26,27] (fun j => [(12, iA .i64 (lsA a j)), (28, iA .i64 (j : Int))]) (fun j => []) (fun j => j ≤ q ∧ (∀ j', j' < j → setP x.S x.m a j')) (fun j => q - j) 0 ?lg6 ?l16 ?l26 ?li6 ?lr6); (case' lg6 => rintro j _); (case' li6 => try (exact ⟨Nat.zero_le _, fun i hi => absurd hi (Nat.not_lt_zero _)⟩)); (case' lr6 => rintro j ⟨hj, haj⟩ KR hR6; simp only [keepE, hupd, hset, lk, if_true, if_false, xE, reduceIte, zN, stF0, stF1, lsA_s, lsA_0, hle]))
 | ((with_reducible refine aL (c := (Code.seq (Code.region 2 _ _) _)) (ι := Nat) [0,1,7] (fun t => [(8, iA .i64 (t : Int))]) (fun t => []) (fun t => t ≤ x.m ∧ (∀ t', t' < t → (x.S t').nu ≠ a j)) (fun t => x.m - t) 0 ?lg2 ?l12 ?l22 ?li2 ?lr2); (case' lg2 => rintro t _); (case' li2 => try (exact ⟨Nat.zero_le _, fun i hi => absurd hi (Nat.not_lt_zero _)⟩)); (case' lr2 => rintro t ⟨ht, hat⟩ KR hR2; simp only [keepE, hupd, hset, lk, if_true, if_false, xE, reduceIte, zN, stF0, stF1, lsA_s, lsA_0, hle]))))
 | ((first | (with_reducible refine And.intro ?_ ?_) | (with_reducible refine Need.mk ?_)); focus (first | exact True.intro | omega))
 | (with_reducible refine retK_n ?_)
 | ((with_reducible show condN _ _ _ _ _ _); first
 | ((with_reducible refine condN_t ?_ ?_) <;> (intro hc; (try simp only [zB, zC, reduceCtorEq] at hc); ((try (exfalso; omega)); (try (clear mk0 hle; have hjq : j < q := (by omega); rcases hle0 : decide (a j ≤ lsA a j) with _ | _; all_goals (have hle := hle0))); (try (have hsb := setT (S := x.S) (m := x.m) (q := q) (a := a) (by omega) haj; clear hst; have hst := hsb; have hsq : setB (opY x).x.S (opY x).x.m q a = true := hsb))); (try (exfalso; contradiction)))))
 | ((with_reducible show callN _ _ _ _ _ _ _ _ _ _); first
 | (refine callN_q (k := 65) fnok_65 (cval_p x hx) ?_ ?_)
 | (refine callN_q (k := 37) fnok_37 (opn_f x hx he0) ?_ ?_)
 | ((refine callN_i (k := 73) Tryz.func73 rfl fnok_73 (by rw [Tryz.ntmps73]; simp) ?_ ?_ (fun K hK => ?_)); (focus (exact True.intro)); (focus ((simp [lsF]; done))); simp only [Tryz.ntmps73, List.map_cons, List.map_nil, List.nil_append, List.cons_append, List.append_nil, LV.tv, argEnv, Nat.zero_add, Nat.reduceAdd])
 | ((refine callN_i (k := 99) Tryz.func99 rfl fnok_99 (by rw [Tryz.ntmps99]; simp) ?_ ?_ (fun K hK => ?_)); (focus (exact True.intro)); (focus ((simp [lsF]; done))); simp only [Tryz.ntmps99, List.map_cons, List.map_nil, List.nil_append, List.cons_append, List.append_nil, LV.tv, argEnv, Nat.zero_add, Nat.reduceAdd])
 | ((refine callN_ic (k := 74) Tryz.func74 rfl fnok_74 (by rw [Tryz.ntmps74]; simp) ?_ ?_ (fun K hK => ?_)); (focus (exact True.intro)); (focus ((simp [lsF]; done))); simp only [Tryz.ntmps74, List.map_cons, List.map_nil, List.nil_append, List.cons_append, List.append_nil, LV.tv, argEnv, Nat.zero_add, Nat.reduceAdd]))
 | ((with_reducible refine hR6 _ (j + 1) ?_); (try clear hR6 KR))
 | ((with_reducible refine hR2 _ (t + 1) ?_); (try clear hR2 KR))
 | ((with_reducible refine Told.mk ?_); simp only [go_sem, reduceIte, reduceCtorEq, xA, xL, xD, xE, xM, xS, xB, stF0, stF1, intI, lsA_s, lsA_0, hle] <;> ((((try simp (disch := omega) only [seaWrap, Int.natCast_add, Int.cast_ofNat_Int, and_true, true_and, and_self]); (repeat' (first | omega | (with_reducible refine And.intro ?_ ?_) | (exact all_succ (by assumption) (by assumption)) | ((exact all_succ (by assumption) ⟨by have := ix_of (S := x.S) (m := x.m) (by omega) (by assumption) hat; omega, by have := of_decide_eq_false hle; omega⟩)))); done))))
 | ((fail_if_success (with_reducible show AW _ _ _ _)); simp (maxSteps := 2000000) only [go_sem, reduceIte, reduceCtorEq, xA, xL, xD, xE, xM, xS, xB, Tryz.f41, Tryz.f73, Tryz.f99, Tryz.f74, stF0, stF1, intI, lsA_s, lsA_0, hle])
 | ((with_reducible refine hK _ ?_); clear hK K)
 | (with_reducible apply_assumption -exfalso only [*]))
  all_goals first
    | (have e0 := setF (S := x.S) (m := x.m) (q := q) (a := a) (j := j) (by omega) (set_f2 (of_decide_eq_true hle)); have e := ask_s (x := x) e0; have e2 := ask_e (x := x) (q := q) (a := a) (by omega); rw [e, e2.1, e2.2]; exact ⟨rfl, rfl, rfl⟩)
    | (have e0 := setF (S := x.S) (m := x.m) (q := q) (a := a) (j := j) (by omega) (set_f1 (ix_no (by omega) hat)); have e := ask_s (x := x) e0; have e2 := ask_e (x := x) (q := q) (a := a) (by omega); rw [e, e2.1, e2.2]; exact ⟨rfl, rfl, rfl⟩)
    | (have e := ask_2 (x := x) he hsb; have e2 := ask_e (x := x) (q := q) (a := a) (by omega); rw [e, e2.1, e2.2]; exact ⟨rfl, rfl, rfl⟩)
    | (have e := ask_0 (x := x) he hsb; rw [e.1, e.2.1, e.2.2.1, e.2.2.2]; exact ⟨⟨rfl, fun i o _ _ => IV.eqv_refl _⟩, rfl, rfl⟩)
    | (exfalso; simp at hc; omega)
    | skip
theorem ask_c (x : CaS) (hx : x.Ok) (q : Nat) (a : Nat → Int) (hqq : q ≤ 9223372036854775807) (he : cvE x = 0) : CallsP Tryz.prog 41 [.one (.lst 9 x.n (featF x.f)), .one (.lst 2 x.m (stF x.S)), .one (.lst 1 x.mo (ptF x.O)), .one (.lst 1 q (intI a))] (.tup [.one (.lst 9 (askN x q a) (featF (askF x q a))), .one (.g (.bool (askB x q a))), .one (.g (.int .i64 (askE x q a)))]) := by
  have hxm := hx.m
  have mk0 : True := trivial
  have hle : True := trivial
  have hst : True := trivial
  have hsq : True := trivial
  refine CallsP_of Tryz.func41 rfl (by rw [Tryz.ntmps41]; simp) ?_
  simp only [Tryz.ntmps41, zM, PT.tv, argEnv, Nat.zero_add, Nat.reduceAdd]
  repeat' (first
 | ((with_reducible show callGN _ _ false _ _ _ _ _ _ _); (with_reducible refine callGN_sq (fun h => by cases h) (fun _ => ?_)))
 | ((with_reducible show callGK _ _ false _ _ _ _); (with_reducible refine callGK_s (fun h => by cases h) (fun _ => ?_)))
 | ((with_reducible show callGN _ _ true _ _ _ _ _ _ _); (with_reducible refine callGN_sq (fun _ => ?_) (fun h => by cases h)))
 | ((with_reducible show AW _ _ _ _); first
 | (with_reducible first | refine aS (fun K hK => ?_) | refine aI ?_ | refine aX ?_ | refine aT ?_ | refine aC ?_ | refine aB ?_)
 | (first
 | (with_reducible first | refine aP 0 [0,1,2,3] ?_ | refine aP (ops := #[⟨some 19, _, _, _, _, _⟩, _, _, _, _]) 1 [0,1,2,3] ?_ | refine aP (ops := #[⟨some 5, _, _, _, _, _⟩, _, _, _, _]) 1 [0,1] ?_ | refine aP (ops := #[⟨some 6, _, _, _, _, _⟩, _, _]) 1 [0,1] ?_ | refine aP (ops := #[⟨some 4, _, _, _, _, _⟩, _, _, _, _]) 1 [1,2] ?_ | refine aP (ops := #[⟨some 23, _, _, _, _, _⟩, _]) 2 [0,1,2,3,11] ?_ | refine aP (ops := #[⟨some 9, _, _, _, _, _⟩]) 2 [0,1,7,8] ?_ | refine aP (ops := #[⟨some 10, _, _, _, _, _⟩, _]) 3 [0,1,7,8] ?_ | refine aP (ops := #[⟨some 12, _, _, _, _, _⟩]) 4 [0,1,2,3] ?_ | refine aP (ops := #[⟨some 11, _, _, _, _, _⟩, _, _, _, _, _]) 4 [0,1,5,7,8] ?_ | refine aP (ops := #[⟨some 26, _, _, _, _, _⟩, _, _]) 5 [0,1,2,3,12] ?_ | refine aP (ops := #[⟨some 17, _, _, _, _, _⟩, _]) 5 [5] ?_ | refine aP (ops := #[⟨some 29, _, _, _, _, _⟩]) 6 [0,1,2,3,12,26,27,28] ?_ | refine aP (ops := #[⟨some 18, _, _, _, _, _⟩, _]) 6 [0,1,7,8] ?_ | refine aP (ops := #[⟨some 30, _, _, _, _, _⟩, _, _, _]) 7 [0,1,2,3,12,26,27,28] ?_ | refine aP (ops := #[⟨some 4, _, _, _, _, _⟩]) 7 [] ?_ | refine aP 8 [0,1,2,3,12,14,26,27,28] ?_ | refine aP 9 [] ?_ | refine aP 10 [0,1,2,3,14,26,27,28] ?_ | refine aP 11 [0,1,2,3,12,26,27,28] ?_ | refine aP 12 [0,1,2,3] ?_ | refine aP 13 [3,11,15] ?_ | refine aP 15 [3,15] ?_ | refine aP 16 [15,16,17] ?_ | refine aP 18 [15,16] ?_ | refine aP 19 [17,18] ?_))
 | ((with_reducible show AW _ (Code.loop _) _ _); first
 | ((with_reducible refine aL (c := (Code.seq (Code.region 6 _ _) _)) (ι := Nat) [0,1,2,3,26,27] (fun j => [(12, iA .i64 (lsA a j)), (28, iA .i64 (j : Int))]) (fun j => []) (fun j => j ≤ q ∧ (∀ j', j' < j → setP x.S x.m a j')) (fun j => q - j) 0 ?lg6 ?l16 ?l26 ?li6 ?lr6); (case' lg6 => rintro j _); (case' li6 => try (exact ⟨Nat.zero_le _, fun i hi => absurd hi (Nat.not_lt_zero _)⟩)); (case' lr6 => rintro j ⟨hj, haj⟩ KR hR6; simp only [keepE, hupd, hset, lk, if_true, if_false, xE, reduceIte, zN, stF0, stF1, lsA_s, lsA_0, hle, he, hsq]))
 | ((with_reducible refine aL (c := (Code.seq (Code.region 2 _ _) _)) (ι := Nat) [0,1,7] (fun t => [(8, iA .i64 (t : Int))]) (fun t => []) (fun t => t ≤ x.m ∧ (∀ t', t' < t → (x.S t').nu ≠ a j)) (fun t => x.m - t) 0 ?lg2 ?l12 ?l22 ?li2 ?lr2); (case' lg2 => rintro t _); (case' li2 => try (exact ⟨Nat.zero_le _, fun i hi => absurd hi (Nat.not_lt_zero _)⟩)); (case' lr2 => rintro t ⟨ht, hat⟩ KR hR2; simp only [keepE, hupd, hset, lk, if_true, if_false, xE, reduceIte, zN, stF0, stF1, lsA_s, lsA_0, hle, he, hsq]))))
 | ((first | (with_reducible refine And.intro ?_ ?_) | (with_reducible refine Need.mk ?_)); focus (first | exact True.intro | omega))
 | (with_reducible refine retK_n ?_)
 | ((with_reducible show condN _ _ _ _ _ _); first
 | ((with_reducible refine condN_t ?_ ?_) <;> (intro hc; (try simp only [zB, zC, reduceCtorEq] at hc); ((try (exfalso; omega)); (try (clear mk0 hle; have hjq : j < q := (by omega); rcases hle0 : decide (a j ≤ lsA a j) with _ | _; all_goals (have hle := hle0))); (try (have hsb := setT (S := x.S) (m := x.m) (q := q) (a := a) (by omega) haj; clear hst; have hst := hsb; have hsq : setB (opY x).x.S (opY x).x.m q a = true := hsb))); (try (exfalso; contradiction)))))
 | ((with_reducible show callN _ _ _ _ _ _ _ _ _ _); first
 | (refine callN_q (k := 65) fnok_65 (cval_p x hx) ?_ ?_)
 | (refine callN_q (k := 37) fnok_37 (opn_t x hx he) ?_ ?_)
 | (refine callN_q (k := 75) fnok_75 (read_p (opY x) (opY_ok hx he) q a hqq) ?_ ?_)
 | (refine callN_q (k := 48) fnok_48 (beh_p (opY x) (opY_ok hx he) (rdV x.S x.m q a) (rdV_in hsb)) ?_ ?_)
 | ((refine callN_i (k := 73) Tryz.func73 rfl fnok_73 (by rw [Tryz.ntmps73]; simp) ?_ ?_ (fun K hK => ?_)); (focus (exact True.intro)); (focus ((simp [lsF]; done))); simp only [Tryz.ntmps73, List.map_cons, List.map_nil, List.nil_append, List.cons_append, List.append_nil, LV.tv, argEnv, Nat.zero_add, Nat.reduceAdd])
 | ((refine callN_i (k := 99) Tryz.func99 rfl fnok_99 (by rw [Tryz.ntmps99]; simp) ?_ ?_ (fun K hK => ?_)); (focus (exact True.intro)); (focus ((simp [lsF]; done))); simp only [Tryz.ntmps99, List.map_cons, List.map_nil, List.nil_append, List.cons_append, List.append_nil, LV.tv, argEnv, Nat.zero_add, Nat.reduceAdd])
 | ((refine callN_ic (k := 74) Tryz.func74 rfl fnok_74 (by rw [Tryz.ntmps74]; simp) ?_ ?_ (fun K hK => ?_)); (focus (exact True.intro)); (focus ((simp [lsF]; done))); simp only [Tryz.ntmps74, List.map_cons, List.map_nil, List.nil_append, List.cons_append, List.append_nil, LV.tv, argEnv, Nat.zero_add, Nat.reduceAdd]))
 | ((with_reducible refine hR6 _ (j + 1) ?_); (try clear hR6 KR))
 | ((with_reducible refine hR2 _ (t + 1) ?_); (try clear hR2 KR))
 | ((with_reducible refine Told.mk ?_); simp only [go_sem, reduceIte, reduceCtorEq, xA, xL, xD, xE, xM, xS, xB, stF0, stF1, intI, lsA_s, lsA_0, hle, he, hsq] <;> ((((try simp (disch := omega) only [seaWrap, Int.natCast_add, Int.cast_ofNat_Int, and_true, true_and, and_self]); (repeat' (first | omega | (with_reducible refine And.intro ?_ ?_) | (exact all_succ (by assumption) (by assumption)) | ((exact all_succ (by assumption) ⟨by have := ix_of (S := x.S) (m := x.m) (by omega) (by assumption) hat; omega, by have := of_decide_eq_false hle; omega⟩)))); done))))
 | ((fail_if_success (with_reducible show AW _ _ _ _)); simp (maxSteps := 2000000) only [go_sem, reduceIte, reduceCtorEq, xA, xL, xD, xE, xM, xS, xB, Tryz.f41, Tryz.f73, Tryz.f99, Tryz.f74, stF0, stF1, intI, lsA_s, lsA_0, hle, he, hsq])
 | ((with_reducible refine hK _ ?_); clear hK K)
 | (with_reducible apply_assumption -exfalso only [*]))
  all_goals first
    | (have e0 := setF (S := x.S) (m := x.m) (q := q) (a := a) (j := j) (by omega) (set_f2 (of_decide_eq_true hle)); have e := ask_s (x := x) e0; have e2 := ask_e (x := x) (q := q) (a := a) (by omega); rw [e, e2.1, e2.2]; exact ⟨rfl, rfl, rfl⟩)
    | (have e0 := setF (S := x.S) (m := x.m) (q := q) (a := a) (j := j) (by omega) (set_f1 (ix_no (by omega) hat)); have e := ask_s (x := x) e0; have e2 := ask_e (x := x) (q := q) (a := a) (by omega); rw [e, e2.1, e2.2]; exact ⟨rfl, rfl, rfl⟩)
    | (have e := ask_2 (x := x) he hsb; have e2 := ask_e (x := x) (q := q) (a := a) (by omega); rw [e, e2.1, e2.2]; exact ⟨rfl, rfl, rfl⟩)
    | (have e := ask_0 (x := x) he hsb; rw [e.1, e.2.1, e.2.2.1, e.2.2.2]; exact ⟨⟨rfl, fun i o _ _ => IV.eqv_refl _⟩, rfl, rfl⟩)
    | (exfalso; simp at hc; omega)
    | skip
theorem asked_p (x : CaS) (hx : x.Ok) (q : Nat) (a : Nat → Int) (hqq : q ≤ 9223372036854775807) : CallsP Tryz.prog 41 [.one (.lst 9 x.n (featF x.f)), .one (.lst 2 x.m (stF x.S)), .one (.lst 1 x.mo (ptF x.O)), .one (.lst 1 q (intI a))] (.tup [.one (.lst 9 (askN x q a) (featF (askF x q a))), .one (.g (.bool (askB x q a))), .one (.g (.int .i64 (askE x q a)))]) := by
  by_cases he : cvE x = 1
  · exact ask_a x hx q a hqq he
  · by_cases he0 : cvE x = 0
    · exact ask_c x hx q a hqq he0
    · exact ask_b x hx q a hqq he he0
theorem std_p (x : CaS) (hx : x.Ok) (q : Nat) (a : Nat → Int) (hqq : q ≤ 9223372036854775807) : CallsP Tryz.prog 15 [.one (.lst 9 x.n (featF x.f)), .one (.lst 2 x.m (stF x.S)), .one (.lst 1 x.mo (ptF x.O)), .one (.lst 1 q (intI a))] (.tup [.one (.g (.bool (askB x q a))), .one (.g (.int .i64 (askE x q a)))]) := by
  refine CallsP_of Tryz.func15 rfl (by rw [Tryz.ntmps15]; simp) ?_
  simp only [Tryz.ntmps15, zM, PT.tv, argEnv, Nat.zero_add, Nat.reduceAdd]
  repeat' (first
 | ((with_reducible show AW _ _ _ _); first
 | (with_reducible first | refine aS (fun K hK => ?_) | refine aT ?_)
 | (first
 | (with_reducible first | refine aP 0 [0,1,2,3] ?_ | refine aP 1 [0,1,2,3] ?_ | refine aP 2 [11,12] ?_)))
 | (((with_reducible refine Need.mk ?_)); focus (exact True.intro))
 | (with_reducible refine retK_n ?_)
 | ((with_reducible show callN _ _ _ _ _ _ _ _ _ _); first
 | (refine callN_q (k := 41) fnok_41 (asked_p x hx q a hqq) ?_ ?_))
 | ((fail_if_success (with_reducible show AW _ _ _ _)); simp (maxSteps := 2000000) only [go_sem, reduceIte, reduceCtorEq, xA, xL, xD, xE, xM, xS, xB, Tryz.f15])
 | ((with_reducible refine hK _ ?_); clear hK K))
theorem res_p (x : CaS) (hx : x.Ok) (q : Nat) (a : Nat → Int) (hqq : q ≤ 9223372036854775807) : CallsP Tryz.prog 17 [.one (.lst 9 x.n (featF x.f)), .one (.lst 2 x.m (stF x.S)), .one (.lst 1 x.mo (ptF x.O)), .one (.lst 1 q (intI a))] (.tup [.one (.lst 9 (reN x q a) (featF (askF x q a))), .one (.g (.int .i64 (reE x q a)))]) := by
  refine CallsP_of Tryz.func17 rfl (by rw [Tryz.ntmps17]; simp) ?_
  simp only [Tryz.ntmps17, zM, PT.tv, argEnv, Nat.zero_add, Nat.reduceAdd]
  repeat' (first
 | ((with_reducible show AW _ _ _ _); first
 | (with_reducible first | refine aS (fun K hK => ?_) | refine aI ?_ | refine aT ?_ | refine aC ?_)
 | (first
 | (with_reducible first | refine aP 0 [0,1,2,3] ?_ | refine aP 1 [0,1,2,3] ?_ | refine aP 2 [10,11,12] ?_ | refine aP 3 [12] ?_ | refine aP 4 [10,11] ?_ | refine aP 5 [] ?_ | refine aP 6 [10] ?_)))
 | ((first | (with_reducible refine And.intro ?_ ?_) | (with_reducible refine Need.mk ?_)); focus (exact True.intro))
 | (with_reducible refine retK_n ?_)
 | ((with_reducible show condN _ _ _ _ _ _); first
 | ((with_reducible refine condN_t ?_ ?_) <;> (intro hc; (try simp only [zB, zC, reduceCtorEq] at hc); (try (exfalso; contradiction)))))
 | ((with_reducible show callN _ _ _ _ _ _ _ _ _ _); first
 | (refine callN_q (k := 41) fnok_41 (asked_p x hx q a hqq) ?_ ?_))
 | ((fail_if_success (with_reducible show AW _ _ _ _)); simp (maxSteps := 2000000) only [go_sem, reduceIte, reduceCtorEq, xA, xL, xD, xE, xM, xS, xB, Tryz.f17])
 | ((with_reducible refine hK _ ?_); clear hK K))
  all_goals first
    | (have e := re_1 (x := x) (q := q) (a := a) (by omega); rw [e.1, e.2]; exact ⟨rfl, rfl⟩)
    | (have e := re_2 (x := x) (q := q) (a := a) (by omega) (by assumption); rw [e.1, e.2]; exact ⟨rfl, rfl⟩)
    | (have e := re_3 (x := x) (q := q) (a := a) (by omega) (by assumption); rw [e.1, e.2]; exact ⟨⟨rfl, fun i o _ _ => IV.eqv_refl _⟩, rfl⟩)
    | skip
end Go.Proofs.YtmnejmpjmniiiaaGreatDoor
