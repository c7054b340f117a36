/- K: walks on abstract states. -/
import Derived.Test.YtbckibbgajfihaaGreatJ
set_option linter.unusedVariables false
set_option linter.unusedSimpArgs false
namespace Go.Proofs.YtbckibbgajfihaaGreat
open Go.RowKit Go.Sea
theorem bo_4 : boD Tryz.prog 4 = true := by kernel_rfl
theorem fnok_6 : fnOk Tryz.prog 6 = true := by kernel_rfl
theorem fnok_43 : fnOk Tryz.prog 43 = true := by kernel_rfl
theorem fnok_5 : fnOk Tryz.prog 5 = true := by kernel_rfl

theorem at_eq (a : Nat → Acc) (t : Int) : ∀ k, atA a t k = lastA (fN a t k) a
  | 0 => rfl
  | k + 1 => by
    simp only [atA, fN]
    by_cases h : (a k).frm ≤ t
    · rw [if_pos h, if_neg (by omega)]; simp [lastA]
    · rw [if_neg h, if_pos (by omega)]; exact at_eq a t k
theorem fN_eq {a : Nat → Acc} {t u : Int} : ∀ k, (∀ i, i < k → ¬ (min t u < (a i).frm ∧ (a i).frm ≤ max t u)) → fN a t k = fN a u k
  | 0, _ => rfl
  | k + 1, h => by
    have h0 := h k (by omega)
    have ih := fN_eq (a := a) (t := t) (u := u) k fun i hi => h i (by omega)
    simp only [fN]
    by_cases h1 : t < (a k).frm
    · rw [if_pos h1, if_pos (by omega)]; exact ih
    · rw [if_neg h1, if_neg (by omega)]
theorem of_ge {sh : Nat → Nat → Int} {x y : Int} : ∀ k, (∀ i, i < k → 1 ≤ sh i 0 ∧ sh i 0 ≤ 20) → ∀ i, i < k → hasB (sh i 1) (sh i 2) (sh i 3) (sh i 4) x y = true → 0 < ofF sh x y k ∧ ofF sh x y k ≤ sh i 0
  | 0, _, i, hi, _ => absurd hi (Nat.not_lt_zero _)
  | k + 1, hb, i, hi, hh => by
    have b0 := ofF_bd (sh := sh) (x := x) (y := y) k fun j hj => hb j (by omega)
    have bk := hb k (by omega)
    simp only [ofF]
    rcases Nat.lt_or_ge i k with h1 | h1
    · have ih := of_ge k (fun j hj => hb j (by omega)) i h1 hh
      split
      · rename_i h; omega
      · exact ih
    · obtain rfl : i = k := by omega
      by_cases h : hasB (sh i 1) (sh i 2) (sh i 3) (sh i 4) x y = true ∧ (ofF sh x y i = 0 ∨ sh i 0 < ofF sh x y i)
      · rw [if_pos h]; omega
      · rw [if_neg h]
        have : ¬ (ofF sh x y i = 0 ∨ sh i 0 < ofF sh x y i) := fun h' => h ⟨hh, h'⟩
        omega
theorem of_ex {sh : Nat → Nat → Int} {x y : Int} : ∀ k, ofF sh x y k ≠ 0 → ∃ i, i < k ∧ hasB (sh i 1) (sh i 2) (sh i 3) (sh i 4) x y = true ∧ sh i 0 = ofF sh x y k
  | 0, h => absurd rfl h
  | k + 1, h => by
    simp only [ofF] at h ⊢
    by_cases h1 : hasB (sh k 1) (sh k 2) (sh k 3) (sh k 4) x y = true ∧ (ofF sh x y k = 0 ∨ sh k 0 < ofF sh x y k)
    · rw [if_pos h1]; exact ⟨k, by omega, h1.1, rfl⟩
    · rw [if_neg h1] at h ⊢
      obtain ⟨i, h2, h3⟩ := of_ex k h
      exact ⟨i, by omega, h3⟩
theorem ow_f {n : Nat} {a : Nat → Acc} {x y t u : Int} (ht : ownE n a x y t ≠ 1) (hu : ownE n a x y u ≠ 1) (h : fN a t n = fN a u n) : ownV n a x y t = ownV n a x y u ∧ ownE n a x y t = ownE n a x y u := by
  have h1 : ownB n a x y t = true := by
    cases hb : ownB n a x y t with
    | true => rfl
    | false => unfold ownE at ht; rw [hb] at ht; simp at ht
  have h2 : ownB n a x y u = true := by
    cases hb : ownB n a x y u with
    | true => rfl
    | false => unfold ownE at hu; rw [hb] at hu; simp at hu
  unfold ownV ownE ownN
  rw [h1, h2, h]
  exact ⟨rfl, rfl⟩

theorem in_clash {a : Acc} (hv : valB a = true) {x y : Int} {i j : Nat} (hi : i < a.m) (hj : j < a.m) (h1 : inB (a.sh i 1) (a.sh i 2) (a.sh i 3) (a.sh i 4) x y = true) (h2 : hasB (a.sh j 1) (a.sh j 2) (a.sh j 3) (a.sh j 4) x y = true) : a.sh i 0 = a.sh j 0 := by
  have hv' := of_decide_eq_true hv
  have si := of_decide_eq_true (hv'.2.1 i hi).1
  have sj := of_decide_eq_true (hv'.2.1 j hj).1
  have h1' := of_decide_eq_true h1
  have h2' := of_decide_eq_true h2
  have vb : ∀ p q r s : Int, (-1000000 ≤ p ∧ p < q ∧ q ≤ 1000000) → (-1000000 ≤ r ∧ r < s ∧ s ≤ 1000000) → vbox p q r s = true := fun p q r s h h' => by
    unfold vbox; simp only [Bool.and_eq_true, decide_eq_true_eq]; omega
  refine Classical.byContradiction fun hne => ?_
  have key : ∀ p q : Nat, q < p → p < a.m → a.sh p 0 ≠ a.sh q 0 → (max (a.sh p 1) (a.sh q 1) < min (a.sh p 2) (a.sh q 2) ∧ max (a.sh p 3) (a.sh q 3) < min (a.sh p 4) (a.sh q 4)) → False := fun p q hqp hp hne' hm => by
    have sp := of_decide_eq_true (hv'.2.1 p hp).1
    have sq := of_decide_eq_true (hv'.2.1 q (by omega)).1
    have := (hv'.2.1 p hp).2 q hqp
    unfold clB insB at this
    rw [vb _ _ _ _ sp.2.1 sp.2.2, vb _ _ _ _ sq.2.1 sq.2.2, decide_eq_true hne', decide_eq_true hm] at this
    cases this
  rcases Nat.lt_trichotomy i j with h | h | h
  · exact key j i h hj (Ne.symm hne) (by omega)
  · subst h; exact hne rfl
  · exact key i j h hi hne (by omega)

theorem own_e {n : Nat} {a : Nat → Acc} {x y t : Int} (h : ownE n a x y t ≠ 1) : ownB n a x y t = true ∧ ownV n a x y t = ofV (atA a t n) x y ∧ (ownV n a x y t = 0 ↔ ownE n a x y t = 4) := by
  have h1 : ownB n a x y t = true := by
    cases hb : ownB n a x y t with
    | true => rfl
    | false => unfold ownE at h; rw [hb] at h; simp at h
  refine ⟨h1, ?_, ?_⟩
  · unfold ownV ownN; rw [h1, at_eq]; rfl
  · unfold ownV ownE; rw [h1]
    by_cases h2 : ownN n a x y t = 0 <;> simp [h2]
theorem at_val {n : Nat} {a : Nat → Acc} {x y t : Int} (h : ownB n a x y t = true) : (atA a t n).m = 0 ∨ valB (atA a t n) = true := by
  simp only [ownB, Bool.and_eq_true] at h
  have hl := list_all h.1.1
  rw [at_eq]
  unfold lastA
  by_cases h0 : fN a t n = 0
  · left; rw [if_pos h0]; rfl
  · right; rw [if_neg h0]
    have := fN_le a t n
    exact (fol_0 (hl.2 (fN a t n - 1) (by omega))).1
theorem own_facts {n : Nat} {a : Nat → Acc} {x y t : Int} (h : ownE n a x y t ≠ 1) :
    (∀ i, i < (atA a t n).m → (hasB ((atA a t n).sh i 1) ((atA a t n).sh i 2) ((atA a t n).sh i 3) ((atA a t n).sh i 4) x y = true → 0 < ownV n a x y t ∧ ownV n a x y t ≤ (atA a t n).sh i 0) ∧
      (inB ((atA a t n).sh i 1) ((atA a t n).sh i 2) ((atA a t n).sh i 3) ((atA a t n).sh i 4) x y = true → ownV n a x y t = (atA a t n).sh i 0)) ∧
    (ownV n a x y t ≠ 0 → ∃ i, i < (atA a t n).m ∧ hasB ((atA a t n).sh i 1) ((atA a t n).sh i 2) ((atA a t n).sh i 3) ((atA a t n).sh i 4) x y = true ∧ (atA a t n).sh i 0 = ownV n a x y t) := by
  obtain ⟨h1, h2, h3⟩ := own_e h
  rw [h2]
  have hv := at_val h1
  generalize atA a t n = F at hv
  rcases hv with hv | hv
  · exact ⟨fun i hi => by omega, fun h' => by (unfold ofV at h'; rw [hv] at h'; exact absurd rfl h')⟩
  · have hb : ∀ i, i < F.m → 1 ≤ F.sh i 0 ∧ F.sh i 0 ≤ 20 := fun i hi => (of_decide_eq_true ((of_decide_eq_true hv).2.1 i hi).1).1
    have ge := fun i hi hh => of_ge (x := x) (y := y) F.m hb i hi hh
    have ex := of_ex (sh := F.sh) (x := x) (y := y) F.m
    refine ⟨fun i hi => ⟨ge i hi, fun hin => ?_⟩, ex⟩
    have hh : hasB (F.sh i 1) (F.sh i 2) (F.sh i 3) (F.sh i 4) x y = true := by
      have := of_decide_eq_true hin
      unfold hasB; exact decide_eq_true (by omega)
    have g := ge i hi hh
    obtain ⟨j, hj, hj1, hj2⟩ := ex (by omega)
    have := in_clash hv hi hj hin hj1
    show ofF F.sh x y F.m = F.sh i 0
    omega
def fndK (n : Nat) (a : Nat → Acc) (x y t : Int) (k : Nat) : Bool := decide (ownV n a x y t = 0 ∨ ∃ i, i < k ∧ hasB ((atA a t n).sh i 1) ((atA a t n).sh i 2) ((atA a t n).sh i 3) ((atA a t n).sh i 4) x y = true ∧ (atA a t n).sh i 0 = ownV n a x y t)
theorem ow_up {V o : Int} {p q : Bool} (h1 : p = true → 0 < V ∧ V ≤ o) (h2 : q = true → V = o) : ((!p || decide (V > 0) && decide (V ≤ o)) && (!q || V == o)) = true := by
  rw [Bool.and_eq_true]
  constructor
  · cases p with
    | false => rfl
    | true => have := h1 rfl; simp; omega
  · cases q with
    | false => rfl
    | true => have := h2 rfl; simp; omega
theorem fnd_s (n : Nat) (a : Nat → Acc) (x y t : Int) (k : Nat) : (fndK n a x y t k || hasB ((atA a t n).sh k 1) ((atA a t n).sh k 2) ((atA a t n).sh k 3) ((atA a t n).sh k 4) x y && (atA a t n).sh k 0 == ownV n a x y t) = fndK n a x y t (k + 1) := by
  rw [Bool.eq_iff_iff]
  simp only [fndK, Bool.or_eq_true, Bool.and_eq_true, decide_eq_true_eq, beq_iff_eq]
  constructor
  · rintro ((h | ⟨i, hi, h⟩) | h)
    · exact Or.inl h
    · exact Or.inr ⟨i, by omega, h⟩
    · exact Or.inr ⟨k, by omega, h⟩
  · rintro (h | ⟨i, hi, h⟩)
    · exact Or.inl (Or.inl h)
    · rcases Nat.lt_or_ge i k with h1 | h1
      · exact Or.inl (Or.inr ⟨i, h1, h⟩)
      · obtain rfl : i = k := by omega
        exact Or.inr h
theorem fnd_0 (n : Nat) (a : Nat → Acc) (x y t : Int) : (ownV n a x y t == 0) = fndK n a x y t 0 := by
  rw [Bool.eq_iff_iff]
  simp [fndK]
theorem fnd_e {n : Nat} {a : Nat → Acc} {x y t : Int} {k : Nat} (hE : ownE n a x y t ≠ 1) (hk : ((atA a t n).m : Int) ≤ k) : (fndK n a x y t k && (ownV n a x y t == 0) == (ownE n a x y t == 4)) = true := by
  have e : ((ownV n a x y t == 0) == (ownE n a x y t == 4)) = true := by
    rw [beq_iff_eq, Bool.eq_iff_iff, beq_iff_eq, beq_iff_eq]
    exact (own_e hE).2.2
  have f : fndK n a x y t k = true := by
    refine decide_eq_true ?_
    by_cases h0 : ownV n a x y t = 0
    · exact Or.inl h0
    · obtain ⟨i, hi, h⟩ := (own_facts hE).2 h0
      exact Or.inr ⟨i, by omega, h⟩
  rw [f, e]; rfl
theorem ow_1 {n : Nat} {a : Nat → Acc} {x y t : Int} (h : ownE n a x y t = 1) : (ownV n a x y t == 0) = true := by
  rw [beq_iff_eq]
  unfold ownE at h; unfold ownV
  by_cases hb : ownB n a x y t = true
  · rw [if_pos hb] at h; split at h <;> omega
  · rw [if_neg hb]

end Go.Proofs.YtbckibbgajfihaaGreat
