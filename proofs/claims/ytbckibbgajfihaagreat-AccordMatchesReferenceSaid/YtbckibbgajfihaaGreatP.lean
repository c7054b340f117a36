/- P: plain laws of the concerned offices: the list by all pairs of ends, without order. -/
import Derived.Test.YtbckibbgajfihaaGreatI
set_option linter.unusedVariables false
set_option linter.unusedSimpArgs false
namespace Go.Proofs.YtbckibbgajfihaaGreat
open Go.RowKit Go.Sea Go.Lib
theorem mem_upTo (zs : List Int) : ∀ m, m ≤ zs.length → ∀ i, i < m → zs.getD i 0 ∈ compactUpTo zs.toArray m
  | 0, _, i, hi => absurd hi (Nat.not_lt_zero _)
  | m + 1, hm, i, hi => by
    rw [compactUpTo_succ, List.mem_append]
    have hg : ∀ k, k < zs.length → (zs.toArray)[k]! = zs.getD k 0 := fun k hk => by simp [List.getD, hk]
    rcases Nat.lt_or_ge i m with h | h
    · exact Or.inl (mem_upTo zs m (by omega) i h)
    · obtain rfl : i = m := by omega
      cases hk : keeps zs.toArray i with
      | true => right; rw [if_pos rfl, hg i (by omega)]; simp
      | false =>
        left
        have h0 : 0 < i := by
          rcases Nat.eq_zero_or_pos i with e | e
          · rw [e] at hk; simp [keeps] at hk
          · exact e
        have e : (zs.toArray)[i]! = (zs.toArray)[i - 1]! := by
          refine Classical.byContradiction fun h => ?_
          rw [keeps_pos h] at hk; cases hk
        rw [hg i (by omega), hg (i - 1) (by omega)] at e
        rw [e]
        exact mem_upTo zs i (by omega) (i - 1) (by omega)
theorem upTo_mem (zs : List Int) (x : Int) : ∀ m, m ≤ zs.length → x ∈ compactUpTo zs.toArray m → x ∈ zs := fun m hm h => by
  simp only [compactUpTo, List.mem_map, List.mem_filter, List.mem_range] at h
  obtain ⟨k, ⟨hk, _⟩, rfl⟩ := h
  have : (zs.toArray)[k]! = zs[k] := by simp [show k < zs.length by omega]
  rw [this]
  exact List.getElem_mem _
theorem mem_compact (zs : List Int) (x : Int) : x ∈ compact zs ↔ x ∈ zs := by
  refine ⟨upTo_mem zs x _ (Nat.le_refl _), fun h => ?_⟩
  obtain ⟨i, hi, rfl⟩ := List.getElem_of_mem h
  have := mem_upTo zs zs.length (Nat.le_refl _) i hi
  simpa [List.getD, hi, compact] using this
theorem mem_once (zs : List Int) (x : Int) : x ∈ onceZ zs ↔ x ∈ zs := by
  unfold onceZ
  rw [mem_compact, List.mem_mergeSort]
/-- What one pair of ends shows. -/
def shows (A B : Acc) (x y : Int) (n : Nat) : Prop := (x ≤ 1000000 ∧ y ≤ 1000000 ∧ ofV A x y ≠ ofV B x y) ∧ ((n : Int) = ofV A x y ∨ (n : Int) = ofV B x y)
theorem stepF_iff {A B : Acc} {f : Nat → Bool} {x y : Int} {n : Nat} : stepF A B f x y n = true ↔ f n = true ∨ shows A B x y n := by
  unfold stepF shows
  by_cases h : x ≤ 1000000 ∧ y ≤ 1000000 ∧ ofV A x y ≠ ofV B x y
  · rw [if_pos h]
    simp only [markF, Bool.or_eq_true, decide_eq_true_eq, h, true_and, ne_eq, not_false_eq_true, and_self, or_assoc]
  · rw [if_neg h]
    exact ⟨Or.inl, fun h' => h'.elim id fun h2 => absurd h2.1 h⟩
theorem chIn_iff {A B : Acc} {ys : List Int} {x : Int} {f : Nat → Bool} {n : Nat} : ∀ j, j ≤ ys.length → (chIn A B ys x f j n = true ↔ f n = true ∨ ∃ i, i < j ∧ shows A B x (ys.getD i 0) n)
  | 0, _ => ⟨Or.inl, fun h => h.elim id fun ⟨i, hi, _⟩ => absurd hi (Nat.not_lt_zero _)⟩
  | j + 1, hj => by
    simp only [chIn]
    rw [stepF_iff, chIn_iff j (by omega)]
    constructor
    · rintro ((h | ⟨i, hi, h⟩) | h)
      · exact Or.inl h
      · exact Or.inr ⟨i, by omega, h⟩
      · exact Or.inr ⟨j, by omega, h⟩
    · rintro (h | ⟨i, hi, h⟩)
      · exact Or.inl (Or.inl h)
      · rcases Nat.lt_or_ge i j with h1 | h1
        · exact Or.inl (Or.inr ⟨i, h1, h⟩)
        · obtain rfl : i = j := by omega
          exact Or.inr h
theorem ex_mem {ys : List Int} {p : Int → Prop} : (∃ i, i < ys.length ∧ p (ys.getD i 0)) ↔ ∃ y, y ∈ ys ∧ p y := by
  constructor
  · rintro ⟨i, hi, h⟩
    refine ⟨ys[i], List.getElem_mem _, ?_⟩
    simpa [List.getD, hi] using h
  · rintro ⟨y, hy, h⟩
    obtain ⟨i, hi, rfl⟩ := List.getElem_of_mem hy
    exact ⟨i, hi, by simpa [List.getD, hi] using h⟩
theorem chOut_iff {A B : Acc} {xs ys : List Int} {n : Nat} : ∀ i, i ≤ xs.length → (chOut A B xs ys i n = true ↔ ∃ k, k < i ∧ ∃ y, y ∈ ys ∧ shows A B (xs.getD k 0) y n)
  | 0, _ => ⟨fun h => by simp [chOut] at h, fun ⟨k, hk, _⟩ => absurd hk (Nat.not_lt_zero _)⟩
  | i + 1, hi => by
    simp only [chOut]
    rw [chIn_iff _ (Nat.le_refl _), chOut_iff i (by omega), ex_mem (p := fun y => shows A B (xs.getD i 0) y n)]
    constructor
    · rintro (⟨k, hk, h⟩ | h)
      · exact ⟨k, by omega, h⟩
      · exact ⟨i, by omega, h⟩
    · rintro ⟨k, hk, h⟩
      rcases Nat.lt_or_ge k i with h1 | h1
      · exact Or.inl ⟨k, h1, h⟩
      · obtain rfl : k = i := by omega
        exact Or.inr h
theorem chAll_iff {A B : Acc} {xs ys : List Int} {n : Nat} : chOut A B xs ys xs.length n = true ↔ ∃ x, x ∈ xs ∧ ∃ y, y ∈ ys ∧ shows A B x y n := by
  rw [chOut_iff _ (Nat.le_refl _), ex_mem (p := fun x => ∃ y, y ∈ ys ∧ shows A B x y n)]
def rawX (A B : Acc) : List Int := endL (catG A.sh A.m B.sh) 1 2 (A.m + B.m)
def rawY (A B : Acc) : List Int := endL (catG A.sh A.m B.sh) 3 4 (A.m + B.m)
theorem ch_raw (A B : Acc) (n : Nat) : chOut A B (endsX A B) (endsY A B) (endsX A B).length n = chOut A B (rawX A B) (rawY A B) (rawX A B).length n := by
  rw [Bool.eq_iff_iff, chAll_iff, chAll_iff]
  unfold endsX endsY rawX rawY
  constructor
  · rintro ⟨x, hx, y, hy, h⟩; exact ⟨x, (mem_once _ _).1 hx, y, (mem_once _ _).1 hy, h⟩
  · rintro ⟨x, hx, y, hy, h⟩; exact ⟨x, (mem_once _ _).2 hx, y, (mem_once _ _).2 hy, h⟩
theorem con_raw (A B : Acc) : conL A B = outL (chOut A B (rawX A B) (rawY A B) (rawX A B).length) 21 := by
  unfold conL
  congr 1
  funext n
  exact ch_raw A B n
/-- The list itself: the offices that some pair of ends shows, ascending. -/
theorem outL_mem {f : Nat → Bool} {x : Int} : ∀ k, x ∈ outL f k ↔ ∃ n, n < k ∧ 0 < n ∧ f n = true ∧ x = (n : Int)
  | 0 => ⟨fun h => by simp [outL] at h, fun ⟨n, hn, _⟩ => absurd hn (Nat.not_lt_zero _)⟩
  | k + 1 => by
    simp only [outL]
    have ih := outL_mem (f := f) (x := x) k
    split
    · rename_i h
      rw [List.mem_append, ih, List.mem_singleton]
      constructor
      · rintro (⟨n, h1, h2⟩ | rfl)
        · exact ⟨n, by omega, h2⟩
        · exact ⟨k, by omega, h.2, h.1, rfl⟩
      · rintro ⟨n, h1, h2, h3, rfl⟩
        rcases Nat.lt_or_ge n k with h4 | h4
        · exact Or.inl ⟨n, h4, h2, h3, rfl⟩
        · obtain rfl : n = k := by omega
          exact Or.inr rfl
    · rename_i h
      rw [ih]
      constructor
      · rintro ⟨n, h1, h2⟩; exact ⟨n, by omega, h2⟩
      · rintro ⟨n, h1, h2, h3, h4⟩
        rcases Nat.lt_or_ge n k with h5 | h5
        · exact ⟨n, h5, h2, h3, h4⟩
        · obtain rfl : n = k := by omega
          exact absurd ⟨h3, h2⟩ h
end Go.Proofs.YtbckibbgajfihaaGreat
