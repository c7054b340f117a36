/- YtbckibbgajfihaaGreatPh: directions: the program's way to look at a sector is the reference's (plain). -/
namespace Go.Proofs.YtbckibbgajfihaaGreat.Ph
/-- upper half -/
def up (x y : Int) : Prop := 0 < y ∨ (y = 0 ∧ 0 < x)
theorem pos_of_mul {a b : Int} (ha : 0 < a) (h : 0 < a * b) : 0 < b := by
  rcases Int.lt_trichotomy b 0 with g | g | g
  · have := Int.mul_neg_of_pos_of_neg ha g; omega
  · subst g; simp at h
  · exact g
theorem nn_of_mul {a b : Int} (ha : 0 < a) (h : 0 ≤ a * b) : 0 ≤ b := by
  rcases Int.lt_or_le b 0 with g | g
  · have := Int.mul_neg_of_pos_of_neg ha g; omega
  · exact g
theorem z_of_mul {a b : Int} (ha : 0 < a) (h : a * b = 0) : b = 0 := by
  rcases Int.mul_eq_zero.1 h with g | g <;> omega
/-- the cross products of three directions, weighed by their heights -/
theorem idY (x y u v z w : Int) : v * (x * w - y * z) = w * (x * v - y * u) + y * (u * w - v * z) := by
  simp only [Int.mul_sub]
  have e1 : v * (x * w) = w * (x * v) := by rw [Int.mul_left_comm, Int.mul_comm v w, Int.mul_left_comm]
  have e2 : v * (y * z) = y * (v * z) := by rw [Int.mul_left_comm]
  have e3 : w * (y * u) = y * (u * w) := by rw [Int.mul_left_comm, Int.mul_comm w u]
  omega
/-- crosses of upper directions: transitive -/
theorem tr_pp {x y u v z w : Int} (ha : up x y) (hb : up u v) (hc : up z w) (h1 : 0 ≤ x * v - y * u) (h2 : 0 ≤ u * w - v * z) : 0 ≤ x * w - y * z ∧ (0 < x * v - y * u ∨ 0 < u * w - v * z → 0 < x * w - y * z) ∧ ((x * v - y * u = 0 ∧ u * w - v * z = 0) → x * w - y * z = 0) := by
  have I := idY x y u v z w
  unfold up at ha hb hc
  rcases hb with hb | ⟨hb, hb'⟩
  · have hy : 0 ≤ y := by omega
    have hw : 0 ≤ w := by omega
    have m1 := Int.mul_nonneg hw h1
    have m2 := Int.mul_nonneg hy h2
    refine ⟨nn_of_mul hb (by omega), ?_, ?_⟩
    · rintro (g | g)
      · rcases hc with hc | ⟨hc, hc'⟩
        · have := Int.mul_pos hc g
          exact pos_of_mul hb (by omega)
        · subst hc
          rcases ha with ha | ⟨ha, ha'⟩
          · exfalso; have := Int.mul_pos hb hc'; simp only [Int.mul_zero] at h2; omega
          · exfalso; have := Int.mul_pos hb hc'; simp only [Int.mul_zero] at h2; omega
      · rcases ha with ha | ⟨ha, ha'⟩
        · have := Int.mul_pos ha g
          exact pos_of_mul hb (by omega)
        · subst ha
          simp only [Int.zero_mul, Int.sub_zero]
          rcases hc with hc | ⟨hc, hc'⟩
          · exact Int.mul_pos ha' hc
          · exfalso; subst hc; have := Int.mul_pos hb hc'; simp only [Int.mul_zero] at h2; omega
    · rintro ⟨g1, g2⟩
      rw [g1, g2] at I
      simp only [Int.mul_zero, Int.add_zero] at I
      exact z_of_mul hb I
  · subst hb
    simp only [Int.mul_zero, Int.zero_mul, Int.sub_zero, Int.zero_sub] at h1 h2 ⊢
    have hy : y = 0 := by
      rcases ha with ha | ha
      · have := Int.mul_pos ha hb'; omega
      · exact ha.1
    subst hy
    simp only [Int.zero_mul, Int.sub_zero, Int.neg_zero] at *
    have hx : 0 < x := by omega
    have hw : 0 ≤ w := by omega
    refine ⟨Int.mul_nonneg (by omega) hw, ?_, ?_⟩
    · rintro (g | g)
      · omega
      · exact Int.mul_pos hx (pos_of_mul hb' g)
    · rintro ⟨-, g⟩
      rw [z_of_mul hb' g]; simp
theorem flip (x y u v : Int) : u * y - v * x = - (x * v - y * u) := by rw [Int.mul_comm u y, Int.mul_comm v x]; omega
/-- like upper directions -/
theorem dot_up {x y u v : Int} (ha : up x y) (hb : up u v) (h : x * v - y * u = 0) : 0 < x * u + y * v := by
  unfold up at ha hb
  rcases ha with ha | ⟨ha, ha'⟩
  · rcases hb with hb | ⟨hb, hb'⟩
    · -- both heights positive: x v = y u
      have p := Int.mul_pos ha hb
      have e : x * v = y * u := by omega
      -- y v (x u) = (y u)(x v) ≥ 0
      have s : y * v * (x * u) = (x * v) * (x * v) := by
        have : y * v * (x * u) = (x * v) * (y * u) := by
          rw [Int.mul_comm x v, Int.mul_comm y v, Int.mul_assoc, Int.mul_assoc, Int.mul_left_comm y x u]
        rw [this, ← e]
      have q : 0 ≤ (x * v) * (x * v) := by
        rcases Int.le_total 0 (x * v) with g | g
        · exact Int.mul_nonneg g g
        · exact Int.mul_nonneg_of_nonpos_of_nonpos g g
      have := nn_of_mul p (by omega : 0 ≤ y * v * (x * u))
      omega
    · subst hb
      have := Int.mul_pos ha hb'
      simp only [Int.mul_zero] at h; omega
  · subst ha
    simp only [Int.zero_mul, Int.sub_zero, Int.add_zero] at h ⊢
    have hv := z_of_mul ha' h
    unfold up at *
    exact Int.mul_pos ha' (by omega)
end Go.Proofs.YtbckibbgajfihaaGreat.Ph
