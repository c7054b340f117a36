/- The plain laws of the clock: no program in sight but for the names. -/
import Derived.Test.YtphmfkellojecaaS
import Derived.Test.YtphmfkellojecaaK
import Derived.Test.YtphmfkellojecaaQ
set_option linter.unusedVariables false
set_option linter.unusedSimpArgs false
namespace Go.Proofs.Ytphmfkellojecaa
open Go.RowKit

theorem t0 {a l u d r : Int} (h : tE a l u d r = 0) : vld a l u d = true ∧ a ≤ r ∧ r ≤ 10000000 ∧ tLo a l u d r = max 0 (r + l - slip a d r) ∧ tHi a l u d r = min 10000000 (r + u + slip a d r) ∧ max 0 (r + l - slip a d r) ≤ min 10000000 (r + u + slip a d r) := by
  cases ho : tOk a l u d r with
  | false => have := t_bad ho; omega
  | true =>
    have h0 := ho
    simp only [tOk, Bool.and_eq_true, decide_eq_true_eq] at h0
    obtain ⟨h1, h2, h3⟩ := h0
    by_cases h4 : max 0 (r + l - slip a d r) ≤ min 10000000 (r + u + slip a d r)
    · obtain ⟨_, e2, e3⟩ := t_ok ho h4
      exact ⟨h1, h2, h3, e2, e3, h4⟩
    · have := t_none ho (by omega); omega
theorem t4 {a l u d r : Int} (h : tE a l u d r = 4) : vld a l u d = true ∧ a ≤ r ∧ r ≤ 10000000 ∧ min 10000000 (r + u + slip a d r) < max 0 (r + l - slip a d r) := by
  cases ho : tOk a l u d r with
  | false => have := t_bad ho; omega
  | true =>
    have h0 := ho
    simp only [tOk, Bool.and_eq_true, decide_eq_true_eq] at h0
    obtain ⟨h1, h2, h3⟩ := h0
    by_cases h4 : max 0 (r + l - slip a d r) ≤ min 10000000 (r + u + slip a d r)
    · have := t_ok ho h4; omega
    · exact ⟨h1, h2, h3, by omega⟩
theorem t_of {a l u d r : Int} (h1 : vld a l u d = true) (h2 : a ≤ r) (h3 : r ≤ 10000000) (h4 : max 0 (r + l - slip a d r) ≤ min 10000000 (r + u + slip a d r)) : tE a l u d r = 0 ∧ tLo a l u d r = max 0 (r + l - slip a d r) ∧ tHi a l u d r = min 10000000 (r + u + slip a d r) :=
  t_ok (by simp only [tOk, Bool.and_eq_true, decide_eq_true_eq]; exact ⟨h1, h2, h3⟩) h4
theorem slip_le (a d : Int) {r s : Int} (d0 : 0 ≤ d) (d1 : d ≤ 1000) (h0 : a ≤ r) (h : r ≤ s) : slip a d r ≤ slip a d s ∧ slip a d s ≤ slip a d r + (s - r) := by
  have := slip_mono a d (r - a).toNat (s - a).toNat d0 d1 (by omega)
  rw [show a + (((r - a).toNat : Nat) : Int) = r by omega, show a + (((s - a).toNat : Nat) : Int) = s by omega] at this
  omega
theorem slip_sum (a d : Int) {r s : Int} (d0 : 0 ≤ d) (h0 : a ≤ r) (h : r ≤ s) : slip a d r + slip r d s ≤ slip a d s := by
  unfold slip
  have e : d * (s - a) = d * (r - a) + d * (s - r) := by rw [← Int.mul_add]; congr 1; omega
  have h1 : 0 ≤ d * (r - a) := Int.mul_nonneg d0 (by omega)
  have h2 : 0 ≤ d * (s - r) := Int.mul_nonneg d0 (by omega)
  omega
theorem slip_more (a : Int) {d e s : Int} (h : d ≤ e) (h0 : a ≤ s) : slip a d s ≤ slip a e s := by
  unfold slip
  have : d * (s - a) ≤ e * (s - a) := Int.mul_le_mul_of_nonneg_right h (by omega)
  exact Int.ediv_le_ediv (by decide) this
theorem slip_self (a d : Int) : slip a d a = 0 := by simp [slip]

/- P34.2 -/
theorem p2 {a l u d r s : Int} (hr : tE a l u d r = 0) (hs : tE a l u d s = 0) (h : r ≤ s) : tLo a l u d r ≤ tLo a l u d s ∧ tHi a l u d r ≤ tHi a l u d s := by
  obtain ⟨hv, r0, r1, e1, e2, _⟩ := t0 hr
  obtain ⟨_, _, _, e3, e4, _⟩ := t0 hs
  obtain ⟨_, _, d0, d1, _⟩ := vld_bd hv
  have := slip_le a d d0 d1 r0 h
  omega
theorem g0 {a l u d r : Int} (h : tE a l u d r = 0) : gV a l u d r = tHi a l u d r - tLo a l u d r + 1 := if_pos h
theorem gn {a l u d r : Int} (h : ¬ tE a l u d r = 0) : gV a l u d r = 0 := if_neg h

/- P34.3 -/
theorem lst_iff {p : Nat → Bool} {n k : Nat} (hm : ∀ i j, i ≤ j → p i = true → p j = true) (hk : k < n) : lst p n ≤ k ↔ p k = true := by
  have hx : ∃ j, j ≤ n ∧ (∀ i, i < j → p i = false) ∧ (j < n → p j = true) := by
    clear hk k
    induction n with
    | zero => exact ⟨0, Nat.le_refl _, fun i h => by omega, fun h => by omega⟩
    | succ n ih =>
      obtain ⟨j, h1, h2, h3⟩ := ih
      by_cases hj : j < n
      · exact ⟨j, by omega, h2, fun _ => h3 hj⟩
      · have hjn : j = n := by omega
        cases hp : p n with
        | true => exact ⟨n, by omega, by rw [← hjn]; exact h2, fun _ => hp⟩
        | false =>
          refine ⟨n + 1, Nat.le_refl _, fun i hi => ?_, fun h => by omega⟩
          by_cases hin : i = n
          · rw [hin]; exact hp
          · exact h2 i (by omega)
  obtain ⟨j, h1, h2, h3⟩ := hx
  rw [lst_eq h1 h2 h3]
  constructor
  · intro h
    exact hm j k h (h3 (by omega))
  · intro h
    rcases Nat.lt_or_ge k j with hkj | hkj
    · rw [h2 k hkj] at h; cases h
    · exact hkj
theorem fH_iff {a u d t r : Int} (d0 : 0 ≤ d) (d1 : d ≤ 1000) (h0 : a ≤ r) (h1 : r ≤ 10000000) : fstH a u d t ≤ r ↔ t ≤ r + u + slip a d r := by
  have := lst_iff (p := highP a u d t) (n := (10000001 - a).toNat) (k := (r - a).toNat) (fun i j h hp => highP_mono d0 d1 h hp) (by omega)
  rw [highP, decide_eq_true_eq, show a + (((r - a).toNat : Nat) : Int) = r by omega] at this
  rw [← this]; unfold fstH; omega
theorem fL_iff {a l d t r : Int} (d0 : 0 ≤ d) (d1 : d ≤ 1000) (h0 : a ≤ r) (h1 : r ≤ 10000000) : fstL a l d t ≤ r ↔ t ≤ r + l - slip a d r := by
  have := lst_iff (p := lowP a l d t) (n := (10000001 - a).toNat) (k := (r - a).toNat) (fun i j h hp => lowP_mono d0 d1 h hp) (by omega)
  rw [lowP, decide_eq_true_eq, show a + (((r - a).toNat : Nat) : Int) = r by omega] at this
  rw [← this]; unfold fstL; omega
theorem hE_014 (a l u d t : Int) : hE a l u d t = 0 ∨ hE a l u d t = 1 ∨ hE a l u d t = 4 := by
  unfold hE; split
  · split <;> simp
  · simp
theorem h_ok {a l u d t : Int} (h : ¬ hE a l u d t = 1) : vld a l u d = true ∧ tm t = true := by
  unfold hE at h
  by_cases hh : vld a l u d = true ∧ tm t = true
  · exact hh
  · rw [if_neg hh] at h; exact absurd rfl h
theorem p3 {a l u d r t : Int} (hr : ¬ tE a l u d r = 1) (ht : ¬ hE a l u d t = 1) : (tE a l u d r = 0 ∧ tLo a l u d r ≤ t ∧ t ≤ tHi a l u d r) ↔ (hE a l u d t = 0 ∧ hLo a l u d t ≤ r ∧ r ≤ hHi a l u d t) := by
  obtain ⟨hv, htm⟩ := h_ok ht
  obtain ⟨a0, a1, d0, d1, l0, l1, l2, u0, u1⟩ := vld_bd hv
  obtain ⟨b1, b2⟩ := tm_bd htm
  have hrr : a ≤ r ∧ r ≤ 10000000 := by
    rcases tE_01 a l u d r with h | h | h
    · have := t0 h; omega
    · exact absurd h hr
    · have := t4 h; omega
  have iH := fH_iff (u := u) (t := t) d0 d1 hrr.1 hrr.2
  have iL := fL_iff (l := l) (t := t + 1) d0 d1 hrr.1 hrr.2
  have hEq : hE a l u d t = if fstL a l d (t + 1) - 1 < fstH a u d t then 4 else 0 := if_pos ⟨hv, htm⟩
  by_cases hn : max 0 (r + l - slip a d r) ≤ min 10000000 (r + u + slip a d r)
  · obtain ⟨e1, e2, e3⟩ := t_of hv hrr.1 hrr.2 hn
    by_cases hc : fstL a l d (t + 1) - 1 < fstH a u d t
    · rw [if_pos hc] at hEq; omega
    · rw [if_neg hc] at hEq
      have e4 : hLo a l u d t = fstH a u d t := by rw [hLo, on, if_pos hEq]
      have e5 : hHi a l u d t = fstL a l d (t + 1) - 1 := by rw [hHi, on, if_pos hEq]
      omega
  · have hne : ¬ tE a l u d r = 0 := fun h => by have := t0 h; omega
    by_cases hc : fstL a l d (t + 1) - 1 < fstH a u d t
    · rw [if_pos hc] at hEq; omega
    · rw [if_neg hc] at hEq
      have e4 : hLo a l u d t = fstH a u d t := by rw [hLo, on, if_pos hEq]
      have e5 : hHi a l u d t = fstL a l d (t + 1) - 1 := by rw [hHi, on, if_pos hEq]
      omega

/- P34.4 -/
theorem p_ok {a l u d r t : Int} (h : pE a l u d r t = 0) : tm t = true ∧ tE a l u d r = 0 := by
  unfold pE at h
  split at h
  · exact ⟨by assumption, h⟩
  · omega
theorem pV_of {a l u d r t : Int} (h : pE a l u d r t = 0) : pV a l u d r t = if t ≤ tLo a l u d r then 1 else if tHi a l u d r < t then -1 else 0 := if_pos (p_ok h)
theorem pV_no {a l u d r t : Int} (h : ¬ pE a l u d r t = 0) : pV a l u d r t = 0 := by
  unfold pV
  rw [if_neg]
  rintro ⟨h1, h2⟩
  exact h (by rw [pE, if_pos h1, h2])
theorem p4a {a l u d r s t : Int} (hr : pE a l u d r t = 0) (hs : pE a l u d s t = 0) (h : r ≤ s) : pV a l u d r t ≤ pV a l u d s t := by
  have := p2 (p_ok hr).2 (p_ok hs).2 h
  have := t_bd a l u d r
  have := t_bd a l u d s
  rw [pV_of hr, pV_of hs]
  split <;> split <;> (try split) <;> (try split) <;> omega
theorem p4b {a l u d r t x : Int} (hr : pE a l u d r t = 0) (hs : pE a l u d r x = 0) (h : x ≤ t) : pV a l u d r t ≤ pV a l u d r x := by
  have := t_bd a l u d r
  rw [pV_of hr, pV_of hs]
  split <;> split <;> (try split) <;> (try split) <;> omega
theorem p4c {a l u d r t : Int} (hr : pE a l u d r t = 0) : pV a l u d r t = 1 ↔ (uE a l u d t = 0 ∧ uV a l u d t ≤ r) := by
  obtain ⟨htm, hE⟩ := p_ok hr
  obtain ⟨hv, r0, r1, e1, e2, e3⟩ := t0 hE
  obtain ⟨a0, a1, d0, d1, l0, l1, l2, u0, u1⟩ := vld_bd hv
  obtain ⟨b1, b2⟩ := tm_bd htm
  have hbd := t_bd a l u d r
  have hpv : pV a l u d r t = 1 ↔ t ≤ tLo a l u d r := by
    rw [pV_of hr]; split
    · omega
    · split <;> omega
  -- the first reading
  have key : ∀ R, uR a l u d t = R → a ≤ R → (R ≤ r ↔ t ≤ tLo a l u d r) → (R ≤ 10000000 → t ≤ max 0 (R + l - slip a d R) ∧ 0 ≤ R + u + slip a d R) → (pV a l u d r t = 1 ↔ (uE a l u d t = 0 ∧ uV a l u d t ≤ r)) := by
    intro R hR haR hRr hRR
    rw [hpv, ← hRr]
    constructor
    · intro hle
      obtain ⟨h1, h2⟩ := hRR (by omega)
      have hsl := slip_le a d d0 d1 haR hle
      obtain ⟨p0, p1⟩ := slip_bd a d R d0 d1 haR (by omega)
      obtain ⟨f1, f2, f3⟩ := t_of (l := l) (u := u) hv haR (by omega) (by omega)
      have hpE : pE a l u d R t = 0 := by rw [pE, if_pos htm]; exact f1
      have hpV : pV a l u d R t = 1 := by rw [pV_of hpE, if_pos (by omega)]
      exact ⟨u_ok hv htm hR ⟨hpE, hpV⟩, by rw [u_okv hv htm hR ⟨hpE, hpV⟩]; exact hle⟩
    · rintro ⟨h1, h2⟩
      rw [uV, if_pos h1, hR] at h2
      exact h2
  by_cases hz : t = 0
  · subst hz
    refine key (fstH a u d 0) (if_pos rfl) (fstH_bd a u d 0 a1).1 ?_ ?_
    · rw [fH_iff d0 d1 r0 r1]; omega
    · intro hR
      have := (fH_iff (a := a) (u := u) (d := d) (t := 0) (r := fstH a u d 0) d0 d1 (fstH_bd a u d 0 a1).1 hR).1 (Int.le_refl _)
      omega
  · refine key (fstL a l d t) (if_neg hz) (fstL_bd a l d t a1).1 ?_ ?_
    · rw [fL_iff d0 d1 r0 r1]; omega
    · intro hR
      have := (fL_iff (a := a) (l := l) (d := d) (t := t) (r := fstL a l d t) d0 d1 (fstL_bd a l d t a1).1 hR).1 (Int.le_refl _)
      obtain ⟨p0, p1⟩ := slip_bd a d (fstL a l d t) d0 d1 (fstL_bd a l d t a1).1 (by omega)
      omega

/- P34.5 -/
theorem s_ok {r l u d : Int} (h : sE r l u d = 0) : tm r = true ∧ sg l u = true ∧ vld r (l - r) (u - r) d = true := by
  unfold sE at h
  by_cases hh : tm r = true ∧ sg l u = true ∧ vld r (l - r) (u - r) d = true
  · exact hh
  · rw [if_neg hh] at h; omega
theorem sE_01 (r l u d : Int) : sE r l u d = 0 ∨ sE r l u d = 1 := by unfold sE; split <;> simp
theorem p5a {r l u d : Int} (h : sE r l u d = 0) : tE r (l - r) (u - r) d r = 0 ∧ tLo r (l - r) (u - r) d r = l ∧ tHi r (l - r) (u - r) d r = u := by
  obtain ⟨h1, h2, h3⟩ := s_ok h
  have := sg_bd h2
  have := tm_bd h1
  have hs := slip_self r d
  have := t_of h3 (Int.le_refl r) (by omega) (by rw [hs]; omega)
  rw [hs] at this
  omega
theorem p5b {r l u d m n e s : Int} (h1 : sE r l u d = 0) (h2 : sE r m n e = 0) (hd : d ≤ e) (hl : m ≤ l) (hu : u ≤ n) (ht : tE r (l - r) (u - r) d s = 0) : tE r (m - r) (n - r) e s = 0 ∧ tLo r (m - r) (n - r) e s ≤ tLo r (l - r) (u - r) d s ∧ tHi r (l - r) (u - r) d s ≤ tHi r (m - r) (n - r) e s := by
  obtain ⟨_, _, h3⟩ := s_ok h2
  obtain ⟨hv, s0, s1, e1, e2, e3⟩ := t0 ht
  have := slip_more r hd s0
  have := t_of h3 s0 s1 (by omega)
  omega

/- P34.6 -/
theorem c_lie {a l u d r m n : Int} (h : cE a l u d r m n = 18) : tE a l u d r = 0 ∧ (n < tLo a l u d r ∨ tHi a l u d r < m) := by
  unfold cE at h
  by_cases h1 : sg m n = true
  · rw [if_pos h1] at h
    by_cases h2 : tE a l u d r = 0
    · rw [if_pos h2] at h
      have := t_bd a l u d r
      have := sg_bd h1
      by_cases h3 : min (tHi a l u d r) n < max (tLo a l u d r) m
      · exact ⟨h2, by omega⟩
      · rw [if_neg h3] at h
        rcases sE_01 r (max (tLo a l u d r) m) (min (tHi a l u d r) n) d with h4 | h4 <;> omega
    · rw [if_neg h2] at h
      rcases tE_01 a l u d r with h4 | h4 | h4 <;> omega
  · rw [if_neg h1] at h; omega
theorem c_none {a l u d r m n : Int} (h : cE a l u d r m n = 4) : tE a l u d r = 4 := by
  unfold cE at h
  by_cases h1 : sg m n = true
  · rw [if_pos h1] at h
    by_cases h2 : tE a l u d r = 0
    · rw [if_pos h2] at h
      by_cases h3 : min (tHi a l u d r) n < max (tLo a l u d r) m
      · rw [if_pos h3] at h; omega
      · rw [if_neg h3] at h
        rcases sE_01 r (max (tLo a l u d r) m) (min (tHi a l u d r) n) d with h4 | h4 <;> omega
    · rw [if_neg h2] at h; exact h
  · rw [if_neg h1] at h; omega
theorem c_ok {a l u d r m n : Int} (h : cE a l u d r m n = 0) : sg m n = true ∧ tE a l u d r = 0 ∧ max (tLo a l u d r) m ≤ min (tHi a l u d r) n ∧ sE r (max (tLo a l u d r) m) (min (tHi a l u d r) n) d = 0 := by
  unfold cE at h
  by_cases h1 : sg m n = true
  · rw [if_pos h1] at h
    by_cases h2 : tE a l u d r = 0
    · rw [if_pos h2] at h
      by_cases h3 : min (tHi a l u d r) n < max (tLo a l u d r) m
      · rw [if_pos h3] at h; omega
      · rw [if_neg h3] at h; exact ⟨h1, h2, by omega, h⟩
    · rw [if_neg h2] at h; exact absurd h h2
  · rw [if_neg h1] at h; omega
theorem p6 {a l u d r s L U : Int} (hr : tE a l u d r = 0) (hL : tLo a l u d r ≤ L) (hU : U ≤ tHi a l u d r) (hS : sE r L U d = 0) (hs : r ≤ s) (ht : tE r (L - r) (U - r) d s = 0) : tE a l u d s = 0 ∧ tLo a l u d s ≤ tLo r (L - r) (U - r) d s ∧ tHi r (L - r) (U - r) d s ≤ tHi a l u d s := by
  obtain ⟨hv, r0, r1, e1, e2, e3⟩ := t0 hr
  obtain ⟨_, s0, s1, f1, f2, f3⟩ := t0 ht
  obtain ⟨a0, a1, d0, d1, l0, l1, l2, u0, u1⟩ := vld_bd hv
  have := slip_sum a d d0 r0 hs
  have := t_of (l := l) (u := u) hv (by omega) s1 (by omega)
  omega

/- P34.7 -/
theorem p7 {a l u d f r t : Int} (ha : tE a l u d a = 0) (hr : ¬ tE a l u d r = 1) (hf1 : tLo a l u d a ≤ f) (hf2 : f ≤ tHi a l u d a) (t1 : 0 ≤ t) (t2 : t ≤ 10000000)
    (h : max (t - f - (r - a)) (-(t - f - (r - a))) * 1000000 ≤ d * (r - a)) : tE a l u d r = 0 ∧ tLo a l u d r ≤ t ∧ t ≤ tHi a l u d r := by
  obtain ⟨hv, _, _, e1, e2, _⟩ := t0 ha
  have hs := slip_self a d
  rw [hs] at e1 e2
  have hrr : a ≤ r ∧ r ≤ 10000000 := by
    rcases tE_01 a l u d r with h | h | h
    · have := t0 h; omega
    · exact absurd h hr
    · have := t4 h; omega
  have hq : max (t - f - (r - a)) (-(t - f - (r - a))) ≤ slip a d r := by
    unfold slip
    exact (Int.le_ediv_iff_mul_le (by decide)).2 h
  have := t_of (l := l) (u := u) hv hrr.1 hrr.2 (by omega)
  omega

/- P34.8 -/
theorem p8a {r L U d m n : Int} (hS : sE r L U d = 0) (hm : sg m n = true) (h1 : m ≤ L) (h2 : U ≤ n) : cE r (L - r) (U - r) d r m n = 0 ∧ max (tLo r (L - r) (U - r) d r) m = L ∧ min (tHi r (L - r) (U - r) d r) n = U := by
  obtain ⟨q1, q2, q3⟩ := p5a hS
  obtain ⟨_, h4, _⟩ := s_ok hS
  have := sg_bd h4
  have e1 : max (tLo r (L - r) (U - r) d r) m = L := by omega
  have e2 : min (tHi r (L - r) (U - r) d r) n = U := by omega
  refine ⟨?_, e1, e2⟩
  rw [cE, if_pos hm, if_pos q1, e1, e2, if_neg (by omega)]; exact hS
theorem p8b {r L U d p q : Int} (hS : sE r L U d = 0) (hne : ¬ cE r (L - r) (U - r) d r p q = 1) : cE r (L - r) (U - r) d r p q = 18 ↔ (q < L ∨ U < p) := by
  obtain ⟨q1, q2, q3⟩ := p5a hS
  obtain ⟨_, h4, _⟩ := s_ok hS
  have := sg_bd h4
  unfold cE at hne ⊢
  by_cases h1 : sg p q = true
  · have := sg_bd h1
    rw [if_pos h1, if_pos q1] at hne ⊢
    rw [q2, q3] at hne ⊢
    by_cases h3 : min U q < max L p
    · rw [if_pos h3]; omega
    · rw [if_neg h3]
      rcases sE_01 r (max L p) (min U q) d with h5 | h5 <;> omega
  · rw [if_neg h1] at hne; exact absurd rfl hne
end Go.Proofs.Ytphmfkellojecaa
