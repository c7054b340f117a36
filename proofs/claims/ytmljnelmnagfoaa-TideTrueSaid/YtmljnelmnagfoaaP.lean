/- Tide: what the stretches of a table tell of its minutes. -/
import Derived.Test.YtmljnelmnagfoaaH2
import Derived.Test.YtmljnelmnagfoaaW
set_option linter.unusedVariables false
set_option linter.unusedSimpArgs false
namespace Go.Proofs.Ytmljnelmnagfoaa
open Go.RowKit
attribute [local go_sem] World.cell?_alloc_some frozen_alloc_some isSome_alloc isSome_setCell

/-- The height at a minute. -/
def hL (s st : Int) (lo : Nat → Int) (x : Int) : Int := if (x - s) % st = 0 then lo ((x - s) / st).toNat else min (lo ((x - s) / st).toNat) (lo (((x - s) / st).toNat + 1))
def hH (s st : Int) (hi : Nat → Int) (x : Int) : Int := if (x - s) % st = 0 then hi ((x - s) / st).toNat else max (hi ((x - s) / st).toNat) (hi (((x - s) / st).toNat + 1))
theorem at_row {s st : Int} (h : 1 ≤ st) (lo : Nat → Int) (k : Nat) : hL s st lo (s + k * st) = lo k := by
  have e1 : (s + (k : Int) * st - s) = (k : Int) * st := by omega
  have e2 : (k : Int) * st % st = 0 := Int.mul_emod_left _ _
  have e3 : (k : Int) * st / st = k := Int.mul_ediv_cancel _ (by omega)
  rw [hL, e1, e2, e3, if_pos rfl, Int.toNat_natCast]
theorem at_rowH {s st : Int} (h : 1 ≤ st) (hi : Nat → Int) (k : Nat) : hH s st hi (s + k * st) = hi k := by
  have e1 : (s + (k : Int) * st - s) = (k : Int) * st := by omega
  have e2 : (k : Int) * st % st = 0 := Int.mul_emod_left _ _
  have e3 : (k : Int) * st / st = k := Int.mul_ediv_cancel _ (by omega)
  rw [hH, e1, e2, e3, if_pos rfl, Int.toNat_natCast]
theorem div_mid {st y : Int} {k : Nat} (h1 : (k : Int) * st < y) (h2 : y < ((k : Int) + 1) * st) (h : 1 ≤ st) : y / st = k ∧ ¬ y % st = 0 := by
  have e : y / st = k := by
    apply Int.le_antisymm
    · have : y / st < (k : Int) + 1 := Int.ediv_lt_of_lt_mul (by omega) h2
      omega
    · exact Int.le_ediv_of_mul_le (by omega) (by omega)
  refine ⟨e, fun h0 => ?_⟩
  have := Int.mul_ediv_add_emod y st
  rw [e, h0, Int.mul_comm] at this
  omega
theorem at_mid {s st x : Int} {k : Nat} (lo : Nat → Int) (h : 1 ≤ st) (h1 : s + (k : Int) * st < x) (h2 : x < s + ((k : Int) + 1) * st) : hL s st lo x = min (lo k) (lo (k + 1)) := by
  obtain ⟨e1, e2⟩ := div_mid (st := st) (y := x - s) (k := k) (by omega) (by omega) h
  rw [hL, if_neg e2, e1, Int.toNat_natCast]
theorem at_midH {s st x : Int} {k : Nat} (hi : Nat → Int) (h : 1 ≤ st) (h1 : s + (k : Int) * st < x) (h2 : x < s + ((k : Int) + 1) * st) : hH s st hi x = max (hi k) (hi (k + 1)) := by
  obtain ⟨e1, e2⟩ := div_mid (st := st) (y := x - s) (k := k) (by omega) (by omega) h
  rw [hH, if_neg e2, e1, Int.toNat_natCast]
/-- The stretches follow one another, from a time to a time. -/
inductive Run (f g : Int → Int) : Int → Int → List Q4 → Prop
  | nil (a : Int) : Run f g a a []
  | snoc {a b : Int} {l : List Q4} (x : Q4) (h : Run f g a b l) (h1 : x.1 = b) (h2 : x.1 ≤ x.2.1) (h3 : ∀ t, x.1 ≤ t → t ≤ x.2.1 → f t = x.2.2.1 ∧ g t = x.2.2.2) : Run f g a (x.2.1 + 1) (l ++ [x])
theorem Run.to {f g : Int → Int} {a b c : Int} {l : List Q4} (h : Run f g a b l) (e : b = c) : Run f g a c l := e ▸ h
theorem strs_run {s st : Int} (lo hi : Nat → Int) (h : 1 ≤ st) : ∀ k : Nat, Run (hL s st lo) (hH s st hi) s (s + (k : Int) * st + 1) (strs s st lo hi (k + 1))
  | 0 => by
    have e := Run.snoc (f := hL s st lo) (g := hH s st hi) (rowS s st lo hi 0) (Run.nil s) (by simp [rowS]) (Int.le_refl _) (fun t h1 h2 => by
      have : t = s + ((0 : Nat) : Int) * st := by simp only [rowS] at h1 h2; omega
      rw [this, at_row h, at_rowH h]; exact ⟨rfl, rfl⟩)
    exact e
  | k + 1 => by
    have ih := strs_run (s := s) lo hi h k
    have e1 : ((k : Int) + 1) * st = (k : Int) * st + st := by rw [Int.add_mul, Int.one_mul]
    have row : ∀ b l, Run (hL s st lo) (hH s st hi) s b l → b = s + ((k : Int) + 1) * st → Run (hL s st lo) (hH s st hi) s (s + ((k + 1 : Nat) : Int) * st + 1) (l ++ [rowS s st lo hi (k + 1)]) := fun b l hb eb => by
      refine Run.snoc (rowS s st lo hi (k + 1)) hb (by simp only [rowS]; rw [eb]; rfl) (Int.le_refl _) (fun t h1 h2 => ?_)
      have : t = s + ((k + 1 : Nat) : Int) * st := by simp only [rowS] at h1 h2; omega
      rw [this, at_row h, at_rowH h]; exact ⟨rfl, rfl⟩
    by_cases h1 : 1 < st
    · rw [strs_two h1]
      have m := Run.snoc (midS s st lo hi k) ih (by simp only [midS]; omega) (by simp only [midS]; omega) (fun t h3 h4 => by
        simp only [midS] at h3 h4 ⊢
        exact ⟨at_mid lo h (by omega) (by omega), at_midH hi h (by omega) (by omega)⟩)
      exact row _ _ m (by simp only [midS]; omega)
    · rw [strs_one h1]
      exact row _ _ ih (by have : st = 1 := by omega
                           subst this; omega)
theorem Run.le {f g : Int → Int} {a b : Int} {l : List Q4} (h : Run f g a b l) : a ≤ b := by
  induction h with
  | nil => exact Int.le_refl _
  | snoc x h h1 h2 h3 ih => omega
theorem Run.mem {f g : Int → Int} {a b : Int} {l : List Q4} (h : Run f g a b l) : ∀ x ∈ l, a ≤ x.1 ∧ x.1 ≤ x.2.1 ∧ x.2.1 < b ∧ (∀ t, x.1 ≤ t → t ≤ x.2.1 → f t = x.2.2.1 ∧ g t = x.2.2.2) := by
  induction h with
  | nil => intro x hx; cases hx
  | snoc y h h1 h2 h3 ih =>
    intro x hx
    rcases List.mem_append.1 hx with hx | hx
    · have := ih x hx; exact ⟨this.1, this.2.1, by omega, this.2.2.2⟩
    · simp at hx; subst hx
      exact ⟨by have := h.le; omega, h2, by omega, h3⟩
theorem Run.cover {f g : Int → Int} {a b : Int} {l : List Q4} (h : Run f g a b l) : ∀ t, a ≤ t → t < b → ∃ x ∈ l, x.1 ≤ t ∧ t ≤ x.2.1 := by
  induction h with
  | nil => intro t h1 h2; omega
  | snoc y h h1 h2 h3 ih =>
    intro t ht1 ht2
    by_cases k : t < y.1
    · obtain ⟨x, hx, hh⟩ := ih t ht1 (by omega)
      exact ⟨x, List.mem_append_left _ hx, hh⟩
    · exact ⟨y, by simp, by omega, by omega⟩
/-- What the fold has: the least and the greatest height from f to u. -/
def IsMin (h : Int → Int) (f u m : Int) : Prop := (∀ t, f ≤ t → t ≤ u → m ≤ h t) ∧ ∃ t, f ≤ t ∧ t ≤ u ∧ h t = m
def IsMax (h : Int → Int) (f u m : Int) : Prop := (∀ t, f ≤ t → t ≤ u → h t ≤ m) ∧ ∃ t, f ≤ t ∧ t ≤ u ∧ h t = m
theorem IsMin.uniq {h : Int → Int} {f u m m' : Int} (a : IsMin h f u m) (b : IsMin h f u m') : m = m' := by
  obtain ⟨a1, t, t1, t2, t3⟩ := a
  obtain ⟨b1, r, r1, r2, r3⟩ := b
  have := a1 r r1 r2
  have := b1 t t1 t2
  omega
theorem IsMax.uniq {h : Int → Int} {f u m m' : Int} (a : IsMax h f u m) (b : IsMax h f u m') : m = m' := by
  obtain ⟨a1, t, t1, t2, t3⟩ := a
  obtain ⟨b1, r, r1, r2, r3⟩ := b
  have := a1 r r1 r2
  have := b1 t t1 t2
  omega
theorem fo_run {hl hh : Int → Int} {a b f u : Int} {l : List Q4} (h : Run hl hh a b l) (h1 : a ≤ f) (hfu : f ≤ u) :
    (b ≤ f → fo f u l = none) ∧ (f < b → ∃ m M, fo f u l = some (m, M) ∧ IsMin hl f (min u (b - 1)) m ∧ IsMax hh f (min u (b - 1)) M) := by
  induction h with
  | nil => exact ⟨fun _ => rfl, fun h => by omega⟩
  | @snoc b l x h e1 e2 e3 ih =>
    obtain ⟨xa, xc, xl, xh⟩ := x
    simp only at e1 e2 e3 ⊢
    obtain ⟨i1, i2⟩ := ih
    rw [fo_snoc]
    refine ⟨fun hb => ?_, fun hb => ?_⟩
    · rw [i1 (by omega), accS_m1 (by omega)]
    · by_cases k : f < b
      · obtain ⟨m, M, em, hm, hM⟩ := i2 k
        rw [em]
        by_cases k2 : u < xa
        · rw [accS_m2 k2]
          refine ⟨m, M, rfl, ?_, ?_⟩
          · rw [show min u (xc + 1 - 1) = min u (b - 1) by omega]; exact hm
          · rw [show min u (xc + 1 - 1) = min u (b - 1) by omega]; exact hM
        · rw [accS_s (by omega) k2]
          refine ⟨_, _, rfl, ⟨fun t t1 t2 => ?_, ?_⟩, ⟨fun t t1 t2 => ?_, ?_⟩⟩
          · by_cases q : t < xa
            · have := hm.1 t t1 (by omega); omega
            · have := (e3 t (by omega) (by omega)).1; omega
          · obtain ⟨t, t1, t2, t3⟩ := hm.2
            by_cases q : m ≤ xl
            · exact ⟨t, t1, by omega, by omega⟩
            · exact ⟨xa, by omega, by omega, by have := (e3 xa (by omega) (by omega)).1; omega⟩
          · by_cases q : t < xa
            · have := hM.1 t t1 (by omega); omega
            · have := (e3 t (by omega) (by omega)).2; omega
          · obtain ⟨t, t1, t2, t3⟩ := hM.2
            by_cases q : xh ≤ M
            · exact ⟨t, t1, by omega, by omega⟩
            · exact ⟨xa, by omega, by omega, by have := (e3 xa (by omega) (by omega)).2; omega⟩
      · rw [i1 (by omega), accS_n (by omega) (by omega)]
        refine ⟨_, _, rfl, ⟨fun t t1 t2 => ?_, f, by omega, by omega, ?_⟩, ⟨fun t t1 t2 => ?_, f, by omega, by omega, ?_⟩⟩
        · have := (e3 t (by omega) (by omega)).1; omega
        · exact (e3 f (by omega) (by omega)).1
        · have := (e3 t (by omega) (by omega)).2; omega
        · exact (e3 f (by omega) (by omega)).2

end Go.Proofs.Ytmljnelmnagfoaa
