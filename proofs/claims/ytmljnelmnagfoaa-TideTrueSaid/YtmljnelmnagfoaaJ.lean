/- Tide: what Height tells. -/
import Derived.Test.YtmljnelmnagfoaaY
import Derived.Test.YtmljnelmnagfoaaD
set_option linter.unusedVariables false
set_option linter.unusedSimpArgs false
namespace Go.Proofs.Ytmljnelmnagfoaa
open Go.RowKit
attribute [local go_sem] World.cell?_alloc_some frozen_alloc_some isSome_alloc isSome_setCell

theorem strs_hs {s st : Int} {n : Nat} {lo hi : Nat → Int} (hv : Tv s st n lo hi) : ∀ k, k ≤ n → ∀ x ∈ strs s st lo hi k, -100000 ≤ x.2.2.1 ∧ x.2.2.1 ≤ x.2.2.2 ∧ x.2.2.2 ≤ 100000
  | 0, _, x, hx => by cases hx
  | 1, h, x, hx => by
    simp [strs] at hx; subst hx
    exact hv.hs 0 (by omega)
  | k + 2, h, x, hx => by
    have ih := strs_hs hv (k + 1) (by omega)
    have q1 := hv.hs k (by omega)
    have q2 := hv.hs (k + 1) (by omega)
    by_cases h1 : 1 < st
    · rw [strs_two h1] at hx
      simp only [List.mem_append, List.mem_singleton] at hx
      rcases hx with (hx | hx) | hx
      · exact ih x hx
      · subst hx; simp only [midS]; omega
      · subst hx; exact q2
    · rw [strs_one h1] at hx
      simp only [List.mem_append, List.mem_singleton] at hx
      rcases hx with hx | hx
      · exact ih x hx
      · subst hx; exact q2
theorem fo_okr {s st : Int} {n : Nat} {lo hi : Nat → Int} (hv : Tv s st n lo hi) (f u : Int) : okO (fo f u (strs s st lo hi n)) := by
  have hs : ∀ x ∈ strs s st lo hi n, -100000 ≤ x.2.2.1 ∧ x.2.2.1 ≤ x.2.2.2 ∧ x.2.2.2 ≤ 100000 := strs_hs hv n (Nat.le_refl _)
  have : ∀ l : List Q4, (∀ x ∈ l, -100000 ≤ x.2.2.1 ∧ x.2.2.1 ≤ x.2.2.2 ∧ x.2.2.2 ≤ 100000) → ∀ o, okO o → okO (l.foldl (accS f u) o) := by
    intro l
    induction l with
    | nil => intro _ o ho; exact ho
    | cons x l ih =>
      intro hl o ho
      refine ih (fun y hy => hl y (by simp [hy])) _ ?_
      obtain ⟨xa, xc, xl, xh⟩ := x
      have hx := hl (xa, xc, xl, xh) (by simp)
      simp only at hx
      by_cases k1 : xc < f
      · rw [accS_m1 k1]; exact ho
      by_cases k2 : u < xa
      · rw [accS_m2 k2]; exact ho
      cases o with
      | none => rw [accS_n k1 k2]; exact hx
      | some a =>
        obtain ⟨a1, a2⟩ := a
        rw [accS_s k1 k2]
        simp only [okO] at ho ⊢
        omega
  exact this _ hs none trivial
theorem he_ok {s st : Int} {n : Nat} {lo hi : Nat → Int} {f u : Int} (h : HE s st n lo hi f u = 0) : Tv s st n lo hi ∧ (0 ≤ f ∧ u ≤ 10000000 ∧ f ≤ u ∧ s ≤ f ∧ u ≤ s + ((n : Int) - 1) * st) ∧
    IsMin (hL s st lo) f u (HL s st n lo hi f u) ∧ IsMax (hH s st hi) f u (HH s st n lo hi f u) ∧ (-100000 ≤ HL s st n lo hi f u ∧ HL s st n lo hi f u ≤ HH s st n lo hi f u ∧ HH s st n lo hi f u ≤ 100000) := by
  have h' := h
  unfold HE at h'
  split at h'
  · rename_i g
    obtain ⟨g1, g2, g3, g4⟩ := g
    split at h'
    · rename_i k
      obtain ⟨f0, f1⟩ := tm_bd g2
      obtain ⟨u0, u1⟩ := tm_bd g3
      have hv := tval_tv g1
      have hr := strs_run' hv
      obtain ⟨m, M, e, hm, hM⟩ := (fo_run hr k.1 g4).2 (by omega)
      have e1 : HL s st n lo hi f u = m := by rw [HL, if_pos h, e]; rfl
      have e2 : HH s st n lo hi f u = M := by rw [HH, if_pos h, e]; rfl
      rw [show min u (s + ((n : Int) - 1) * st + 1 - 1) = u by omega] at hm hM
      rw [e1, e2]
      refine ⟨hv, by omega, hm, hM, ?_⟩
      have okr := fo_okr hv f u
      rw [e] at okr
      exact okr
    · omega
  · omega
theorem he_in {s st : Int} {n : Nat} {lo hi : Nat → Int} {f u : Int} (hv : tval s st n lo hi = true) (h : 0 ≤ f ∧ u ≤ 10000000 ∧ f ≤ u ∧ s ≤ f ∧ u ≤ s + ((n : Int) - 1) * st) : HE s st n lo hi f u = 0 := by
  rw [HE, if_pos ⟨hv, decide_eq_true (by omega), decide_eq_true (by omega), h.2.2.1⟩, if_pos ⟨h.2.2.2.1, h.2.2.2.2⟩]
theorem he_tv {s st : Int} {n : Nat} {lo hi : Nat → Int} {f u : Int} (h : HE s st n lo hi f u = 0) : tval s st n lo hi = true := by
  unfold HE at h
  split at h
  · rename_i g; exact g.1
  · omega
theorem min_join {h : Int → Int} {x y z a b : Int} (h1 : IsMin h x y a) (h2 : IsMin h y z b) (hxy : x ≤ y) (hyz : y ≤ z) : IsMin h x z (min a b) := by
  obtain ⟨p1, t, t1, t2, t3⟩ := h1
  obtain ⟨q1, r, r1, r2, r3⟩ := h2
  refine ⟨fun v v1 v2 => ?_, ?_⟩
  · by_cases k : v ≤ y
    · have := p1 v v1 k; omega
    · have := q1 v (by omega) v2; omega
  · by_cases k : a ≤ b
    · exact ⟨t, t1, by omega, by omega⟩
    · exact ⟨r, by omega, r2, by omega⟩
theorem max_join {h : Int → Int} {x y z a b : Int} (h1 : IsMax h x y a) (h2 : IsMax h y z b) (hxy : x ≤ y) (hyz : y ≤ z) : IsMax h x z (max a b) := by
  obtain ⟨p1, t, t1, t2, t3⟩ := h1
  obtain ⟨q1, r, r1, r2, r3⟩ := h2
  refine ⟨fun v v1 v2 => ?_, ?_⟩
  · by_cases k : v ≤ y
    · have := p1 v v1 k; omega
    · have := q1 v (by omega) v2; omega
  · by_cases k : b ≤ a
    · exact ⟨t, t1, by omega, by omega⟩
    · exact ⟨r, by omega, r2, by omega⟩
theorem jj {a b c d : Int} (h1 : -100000 ≤ a ∧ a ≤ b ∧ b ≤ 100000) (h2 : -100000 ≤ c ∧ c ≤ d ∧ d ≤ 100000) : jE a b c d = 0 ∧ jL a b c d = min a c ∧ jH a b c d = max b d := jE_t (sv_t (by omega)) (sv_t (by omega))
theorem wi_t {a b c d : Int} (h1 : -100000 ≤ a ∧ a ≤ b ∧ b ≤ 100000) (h2 : -100000 ≤ c ∧ c ≤ d ∧ d ≤ 100000) (h : c ≤ a ∧ b ≤ d) : wi a b c d = true := by
  rw [wi, sv_t (by omega), sv_t (by omega), decide_eq_true h]; rfl
theorem parts {s st : Int} {n : Nat} {lo hi : Nat → Int} {x y z : Int} (h1 : HE s st n lo hi x y = 0) (h2 : HE s st n lo hi y z = 0) :
    HE s st n lo hi x z = 0 ∧ jE (HL s st n lo hi x y) (HH s st n lo hi x y) (HL s st n lo hi y z) (HH s st n lo hi y z) = 0 ∧ jE (HL s st n lo hi x y) (HH s st n lo hi x y) (HL s st n lo hi x z) (HH s st n lo hi x z) = 0 ∧ jE (HL s st n lo hi y z) (HH s st n lo hi y z) (HL s st n lo hi x z) (HH s st n lo hi x z) = 0 ∧
    Hid (jL (HL s st n lo hi x y) (HH s st n lo hi x y) (HL s st n lo hi y z) (HH s st n lo hi y z) = HL s st n lo hi x z) ∧ Hid (jH (HL s st n lo hi x y) (HH s st n lo hi x y) (HL s st n lo hi y z) (HH s st n lo hi y z) = HH s st n lo hi x z) ∧
    wi (HL s st n lo hi x y) (HH s st n lo hi x y) (HL s st n lo hi x z) (HH s st n lo hi x z) = true ∧ wi (HL s st n lo hi y z) (HH s st n lo hi y z) (HL s st n lo hi x z) (HH s st n lo hi x z) = true := by
  obtain ⟨hv, b1, m1, M1, r1⟩ := he_ok h1
  obtain ⟨_, b2, m2, M2, r2⟩ := he_ok h2
  have h3 : HE s st n lo hi x z = 0 := he_in (he_tv h1) (by omega)
  obtain ⟨_, b3, m3, M3, r3⟩ := he_ok h3
  have e1 := m3.uniq (min_join m1 m2 (by omega) (by omega))
  have e2 := M3.uniq (max_join M1 M2 (by omega) (by omega))
  obtain ⟨j1, j2, j3⟩ := jj r1 r2
  exact ⟨h3, j1, (jj r1 r3).1, (jj r2 r3).1, Lib.hid (by omega), Lib.hid (by omega), wi_t r1 r3 (by omega), wi_t r2 r3 (by omega)⟩

end Go.Proofs.Ytmljnelmnagfoaa
