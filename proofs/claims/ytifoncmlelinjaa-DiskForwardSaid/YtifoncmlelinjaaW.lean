/- W: what a disk has, plain. -/
import Derived.Test.YtifoncmlelinjaaU
set_option linter.unusedVariables false
set_option linter.unusedSimpArgs false
namespace Go.Proofs.Ytifoncmlelinjaa
open Go.RowKit Go.Sea
theorem posS_mono (b : Nat → Int) : ∀ i j, i ≤ j → posS b i ≤ posS b j
  | i, 0, h => by obtain rfl : i = 0 := by omega
                  exact Nat.le_refl _
  | i, j + 1, h => by
    by_cases e : i = j + 1
    · rw [e]; exact Nat.le_refl _
    · have := posS_mono b i j (by omega)
      rw [posS_s]; omega
theorem posS_enc (b : Nat → Int) : ∀ i, posS b i = encP (recL b) i
  | 0 => rfl
  | i + 1 => by
    rw [posS_s, posS_enc b i]
    show encP (recL b) i + 3 + rl b (encP (recL b) i) = encP (recL b) i + (rl b (posS b i) + 3)
    rw [posS_enc b i]; omega
/-- The same bytes up to the end, and no record there: the same records. -/
theorem par_keep {b c : Nat → Int} {L : Nat} (hp : ∀ p, p < endP b L → c p = b p) (hz : endP b L < L → c (endP b L) = 0) :
    cnt c L = cnt b L ∧ endP c L = endP b L ∧ okP c L = true ∧ ∀ i, i < cnt b L → recL c i = recL b i ∧ ∀ j, j < recL b i → recF c i j = recF b i j := by
  have hg := (cnt_go (b := b) (L := L)).1
  have pos : ∀ i, i ≤ cnt b L → posS c i = posS b i := fun i => by
    induction i with
    | zero => exact fun _ => rfl
    | succ i ih =>
      intro hi
      have h1 := ih (by omega)
      have h2 : posS b (i + 1) ≤ endP b L := posS_mono b _ _ hi
      rw [posS_s] at h2
      rw [posS_s, posS_s, h1]
      unfold rl
      rw [hp _ (by omega), hp _ (by omega)]
  have hle : ∀ i, i ≤ cnt b L → posS b i ≤ endP b L := fun i hi => posS_mono b _ _ hi
  have e1 : cnt c L = cnt b L := by
    refine cnt_eq (fun i hi => ?_) fun h => ?_
    · obtain ⟨g1, g2, g3⟩ := hg i hi
      refine ⟨by rw [pos i (by omega)]; exact g1, ?_, by rw [pos (i + 1) hi]; exact g3⟩
      rw [pos i (by omega), hp _ ?_]
      · exact g2
      · have := hle (i + 1) hi
        rw [posS_s] at this
        omega
    · obtain ⟨g1, g2, g3⟩ := h
      rw [pos _ (Nat.le_refl _)] at g1 g2
      have := hz g1
      unfold endP at this
      omega
  have e2 : endP c L = endP b L := by
    show posS c (cnt c L) = _
    rw [e1, pos _ (Nat.le_refl _)]; rfl
  refine ⟨e1, e2, ?_, fun i hi => ?_⟩
  · unfold okP
    rw [e2]
    refine decide_eq_true ?_
    by_cases h : endP b L < L
    · exact Or.inr ⟨h, hz h⟩
    · have := endP_le b L
      exact Or.inl (by omega)
  · have h2 := hle (i + 1) hi
    rw [posS_s] at h2
    have hr : recL c i = recL b i := by
      unfold recL rl
      rw [pos i (by omega), hp _ (by omega), hp _ (by omega)]
    refine ⟨hr, fun j hj => ?_⟩
    unfold recF
    unfold recL at hj
    rw [pos i (by omega), hp _ (by omega)]
theorem rl_form {c : Nat → Int} {p r : Nat} {R : Nat → Int} (hr : r ≤ 65535) (h : ∀ j, j < r + 3 → c (p + j) = formF r R j) : c p = 1 ∧ rl c p = r ∧ ∀ j, j < r → c (p + 3 + j) = R j := by
  have h0 := h 0 (by omega)
  have h1 := h 1 (by omega)
  have h2 := h 2 (by omega)
  refine ⟨h0, ?_, fun j hj => ?_⟩
  · unfold rl
    rw [h1, h2]
    show ((r : Int) / 256 % 256).toNat * 256 + ((r : Int) % 256).toNat = r
    omega
  · have := h (j + 3) (by omega)
    rw [show p + 3 + j = p + (j + 3) by omega, this]
    rfl
/-- The same bytes up to the end, and one more record behind it. -/
theorem par_app {b c : Nat → Int} {L r : Nat} {R : Nat → Int} (hr : r ≤ 65535) (hp : ∀ p, p < endP b L → c p = b p) (hf : ∀ j, j < r + 3 → c (endP b L + j) = formF r R j) (hfit : endP b L + (r + 3) ≤ L) (hz : endP b L + (r + 3) < L → c (endP b L + (r + 3)) = 0) :
    cnt c L = cnt b L + 1 ∧ endP c L = endP b L + (r + 3) ∧ okP c L = true ∧ (∀ i, i < cnt b L → recL c i = recL b i ∧ ∀ j, j < recL b i → recF c i j = recF b i j) ∧ recL c (cnt b L) = r ∧ ∀ j, j < r → recF c (cnt b L) j = R j := by
  have hg := (cnt_go (b := b) (L := L)).1
  have pos : ∀ i, i ≤ cnt b L → posS c i = posS b i := fun i => by
    induction i with
    | zero => exact fun _ => rfl
    | succ i ih =>
      intro hi
      have h1 := ih (by omega)
      have h2 : posS b (i + 1) ≤ endP b L := posS_mono b _ _ hi
      rw [posS_s] at h2
      rw [posS_s, posS_s, h1]
      unfold rl
      rw [hp _ (by omega), hp _ (by omega)]
  have hle : ∀ i, i ≤ cnt b L → posS b i ≤ endP b L := fun i hi => posS_mono b _ _ hi
  obtain ⟨f1, f2, f3⟩ := rl_form hr hf
  have pe : posS c (cnt b L) = endP b L := pos _ (Nat.le_refl _)
  have pn : posS c (cnt b L + 1) = endP b L + (r + 3) := by rw [posS_s, pe, f2]; omega
  have e1 : cnt c L = cnt b L + 1 := by
    refine cnt_eq (fun i hi => ?_) fun h => ?_
    · by_cases e : i = cnt b L
      · subst e
        exact ⟨by rw [pe]; omega, by rw [pe]; exact f1, by rw [pn]; exact hfit⟩
      · obtain ⟨g1, g2, g3⟩ := hg i (by omega)
        refine ⟨by rw [pos i (by omega)]; exact g1, ?_, by rw [pos (i + 1) (by omega)]; exact g3⟩
        rw [pos i (by omega), hp _ ?_]
        · exact g2
        · have := hle (i + 1) (by omega)
          rw [posS_s] at this
          omega
    · obtain ⟨g1, g2, g3⟩ := h
      rw [pn] at g1 g2
      have := hz g1
      omega
  have e2 : endP c L = endP b L + (r + 3) := by
    show posS c (cnt c L) = _
    rw [e1, pn]
  refine ⟨e1, e2, ?_, fun i hi => ?_, ?_, fun j hj => ?_⟩
  · unfold okP
    rw [e2]
    refine decide_eq_true ?_
    by_cases h : endP b L + (r + 3) < L
    · exact Or.inr ⟨h, hz h⟩
    · exact Or.inl (by omega)
  · have h2 := hle (i + 1) hi
    rw [posS_s] at h2
    have hr : recL c i = recL b i := by
      unfold recL rl
      rw [pos i (by omega), hp _ (by omega), hp _ (by omega)]
    refine ⟨hr, fun j hj => ?_⟩
    unfold recF
    unfold recL at hj
    rw [pos i (by omega), hp _ (by omega)]
  · unfold recL
    rw [pe]; exact f2
  · unfold recF
    rw [pe]; exact f3 j hj
theorem enc_val {m : Nat → Nat} {D : Nat → Nat → Int} {i j : Nat} (hj : j < m i + 3) : ∀ k, i < k → encB m D k (encP m i + j) = formF (m i) (D i) j
  | 0, h => by omega
  | k + 1, h => by
    by_cases e : i = k
    · subst e; exact enc_at
    · have := encP_mono m (i + 1) k (by omega)
      have e2 : encP m (i + 1) = encP m i + (m i + 3) := rfl
      rw [enc_lt (by omega)]
      exact enc_val hj k (by omega)
/-- The bytes that a compaction writes have the records. -/
theorem par_enc {c : Nat → Int} {L q : Nat} {m : Nat → Nat} {D : Nat → Nat → Int} (hm : ∀ i, i < q → m i ≤ 65535) (hfit : encP m q ≤ L) (hc : ∀ p, p < L → c p = cmpF m D q p) :
    cnt c L = q ∧ endP c L = encP m q ∧ okP c L = true ∧ ∀ i, i < q → recL c i = m i ∧ ∀ j, j < m i → recF c i j = D i j := by
  have val : ∀ i, i < q → ∀ j, j < m i + 3 → c (encP m i + j) = formF (m i) (D i) j := fun i hi j hj => by
    have h1 := encP_mono m (i + 1) q (by omega)
    have e2 : encP m (i + 1) = encP m i + (m i + 3) := rfl
    rw [hc _ (by omega), ← cmp_lt (by omega), enc_val hj q hi]
  have pos : ∀ i, i ≤ q → posS c i = encP m i := fun i => by
    induction i with
    | zero => exact fun _ => rfl
    | succ i ih =>
      intro hi
      obtain ⟨_, f2, _⟩ := rl_form (hm i (by omega)) (val i (by omega))
      rw [posS_s, ih (by omega), f2]
      show _ = encP m i + (m i + 3)
      omega
  have e1 : cnt c L = q := by
    refine cnt_eq (fun i hi => ?_) fun h => ?_
    · obtain ⟨f1, _, _⟩ := rl_form (hm i hi) (val i hi)
      have h1 := encP_mono m (i + 1) q (by omega)
      have e2 : encP m (i + 1) = encP m i + (m i + 3) := rfl
      exact ⟨by rw [pos i (by omega)]; omega, by rw [pos i (by omega)]; exact f1, by rw [pos (i + 1) hi]; omega⟩
    · obtain ⟨g1, g2, _⟩ := h
      rw [pos q (Nat.le_refl _)] at g1 g2
      rw [hc _ g1, cmp_ge (Nat.le_refl _)] at g2
      omega
  have e2 : endP c L = encP m q := by
    show posS c (cnt c L) = _
    rw [e1, pos q (Nat.le_refl _)]
  refine ⟨e1, e2, ?_, fun i hi => ?_⟩
  · unfold okP
    rw [e2]
    refine decide_eq_true ?_
    by_cases h : encP m q < L
    · exact Or.inr ⟨h, by rw [hc _ h, cmp_ge (Nat.le_refl _)]⟩
    · exact Or.inl (by omega)
  · obtain ⟨_, f2, f3⟩ := rl_form (hm i hi) (val i hi)
    unfold recL recF
    rw [pos i (by omega)]
    exact ⟨f2, f3⟩
/-- A disk is valid and has these records. -/
structure Has (n : Nat) (m : Nat → Nat) (D : Nat → Nat → Int) (q : Nat) (M : Nat → Nat) (F : Nat → Nat → Int) : Prop where
  v : vB n m D = true
  c : readN n m D = q
  r : ∀ i, i < q → recL (hv n D) i = M i ∧ ∀ j, j < M i → recF (hv n D) i j = F i j
  e : endP (hv n D) (hlf n * 64) = encP M q
theorem encP_congr {m m' : Nat → Nat} : ∀ q, (∀ i, i < q → m i = m' i) → encP m q = encP m' q
  | 0, _ => rfl
  | q + 1, h => by
    show encP m q + (m q + 3) = encP m' q + (m' q + 3)
    rw [encP_congr q (fun i hi => h i (by omega)), h q (by omega)]
/-- What a valid disk has. -/
theorem Has.self {n : Nat} {m : Nat → Nat} {D : Nat → Nat → Int} (h : vB n m D = true) : Has n m D (readN n m D) (recL (hv n D)) (recF (hv n D)) := by
  refine ⟨h, rfl, fun _ _ => ⟨rfl, fun _ _ => rfl⟩, ?_⟩
  unfold readN
  rw [if_pos h]
  exact posS_enc _ _
theorem vB_parts {n : Nat} {m : Nat → Nat} {D : Nat → Nat → Int} (hD : BytD D) (h : vB n m D = true) : ∃ k : Nat, Szd n m ∧ k ≤ 1 ∧ D 0 0 = (k : Int) ∧ okP (halfF n D k) (hlf n * 64) = true := by
  rcases disk_cases n m D hD with hs | ⟨hs, hd⟩ | ⟨k, hs, hk1, hk⟩
  · rw [vB_no1 hs] at h; cases h
  · rw [vB_no2 hd] at h; cases h
  · rw [vB_ok hs hk1 hk] at h
    exact ⟨k, hs, hk1, hk, h⟩
theorem Szd.c64 {n : Nat} {m : Nat → Nat} (h : Szd n m) : Szd n c64 := ⟨h.h3, h.h63, h.odd, fun _ _ => rfl⟩
theorem Has.of {n : Nat} {m : Nat → Nat} {D : Nat → Nat → Int} (hs : Szd n m) {k : Nat} (hk1 : k ≤ 1) (hk : D 0 0 = (k : Int)) {q : Nat} {M : Nat → Nat} {F : Nat → Nat → Int} (h1 : cnt (halfF n D k) (hlf n * 64) = q) (h2 : endP (halfF n D k) (hlf n * 64) = encP M q) (h3 : okP (halfF n D k) (hlf n * 64) = true)
    (h4 : ∀ i, i < q → recL (halfF n D k) i = M i ∧ ∀ j, j < M i → recF (halfF n D k) i j = F i j) : Has n m D q M F := by
  have hv_ := vB_ok hs hk1 hk
  refine ⟨hv_.trans h3, ?_, ?_, ?_⟩
  · unfold readN; rw [hv_, h3, if_pos rfl, hv_k hk]; exact h1
  · rw [hv_k hk]; exact h4
  · rw [hv_k hk]; exact h2
/-- How many bytes are to be written ahead of the byte that tells of a new record. -/
def lim (n : Nat) (D : Nat → Nat → Int) (r : Nat) : Nat := secsN (endP (hv n D) (hlf n * 64)) r (hlf n * 64) * 64 + endP (hv n D) (hlf n * 64) % 64
section
variable {n : Nat} {m : Nat → Nat} {D : Nat → Nat → Int} {k r af : Nat} {R : Nat → Int} {b : Nat → Int} {s e L : Nat}
theorem ap1_lt {p : Nat} (h : p < e) : ap1 b e r R p = b p := by unfold ap1; rw [if_neg (by omega), if_neg (by omega), if_neg (by omega)]
theorem ap2_lt {p : Nat} (h : p < e) : ap2 b e r R p = b p := by unfold ap2; rw [if_neg (by omega)]; exact ap1_lt h
theorem ap2_form {j : Nat} (h : j < r + 3) : ap2 b e r R (e + j) = formF r R j := by
  unfold ap2
  by_cases h0 : j = 0
  · subst h0; rw [if_pos (by omega)]; rfl
  · rw [if_neg (by omega)]; unfold ap1
    rw [if_neg (by omega), if_pos (by omega), show e + j - e = j by omega]
theorem ap2_end : ap2 b e r R (e + (r + 3)) = 0 := by
  unfold ap2 ap1; rw [if_neg (by omega), if_neg (by omega), if_neg (by omega), if_pos rfl]
/-- The bytes of the half behind an append. -/
theorem apD_half {j p : Nat} (hj : p < L) (hL : L % 64 = 0) (hb : ∀ p, p < L → D (s + p / 64) (p % 64) = b p) (hfit : e + (r + 3) ≤ L) :
    apD D b s e r L R af (s + p / 64) (p % 64) = if secsN e r L * 64 + e % 64 < af then (if e / 64 ≤ p / 64 ∧ p / 64 < e / 64 + secsN e r L then ap2 b e r R p else b p) else (if p / 64 = e / 64 ∧ p % 64 + secsN e r L * 64 < af then ap2 b e r R p else if e / 64 ≤ p / 64 ∧ p / 64 < e / 64 + secsN e r L ∧ (p / 64 - e / 64) * 64 + p % 64 < af then ap1 b e r R p else b p) := by
  have hQ : 1 ≤ secsN e r L := by unfold secsN lastN; omega
  have hbp := hb p hj
  have i1 : wrR D (ap1 b e r R) (s + e / 64) (e / 64) af (secsN e r L) (s + p / 64) (p % 64) = if e / 64 ≤ p / 64 ∧ p / 64 < e / 64 + secsN e r L ∧ (p / 64 - e / 64) * 64 + p % 64 < af then ap1 b e r R p else b p := by
    unfold wrR
    by_cases h : e / 64 ≤ p / 64 ∧ p / 64 < e / 64 + secsN e r L ∧ (p / 64 - e / 64) * 64 + p % 64 < af
    · rw [if_pos (by omega), if_pos h, show e / 64 * 64 + (s + p / 64 - (s + e / 64)) * 64 + p % 64 = p by omega]
    · rw [if_neg (by omega), if_neg h]; exact hbp
  have i2 : apD D b s e r L R af (s + p / 64) (p % 64) = if p / 64 = e / 64 ∧ p % 64 < af - secsN e r L * 64 then ap2 b e r R p else (if e / 64 ≤ p / 64 ∧ p / 64 < e / 64 + secsN e r L ∧ (p / 64 - e / 64) * 64 + p % 64 < af then ap1 b e r R p else b p) := by
    rw [← i1]
    unfold apD
    generalize wrR D (ap1 b e r R) (s + e / 64) (e / 64) af (secsN e r L) = X
    unfold wrR
    by_cases h : p / 64 = e / 64 ∧ p % 64 < af - secsN e r L * 64
    · rw [if_pos (by omega), if_pos h, show e / 64 * 64 + (s + p / 64 - (s + e / 64)) * 64 + p % 64 = p by omega]
    · rw [if_neg (by omega), if_neg h]
  rw [i2]
  by_cases hA : secsN e r L * 64 + e % 64 < af
  · rw [if_pos hA]
    by_cases h : p / 64 = e / 64 ∧ p % 64 < af - secsN e r L * 64
    · rw [if_pos h, if_pos (by omega)]
    · rw [if_neg h]
      by_cases h2 : e / 64 ≤ p / 64 ∧ p / 64 < e / 64 + secsN e r L
      · rw [if_pos h2, if_pos ⟨h2.1, h2.2, by have := Nat.mul_le_mul_right 64 (show p / 64 - e / 64 + 1 ≤ secsN e r L by omega); omega⟩]
        unfold ap2
        rw [if_neg (by omega)]
      · rw [if_neg h2, if_neg (fun h => h2 ⟨h.1, h.2.1⟩)]
  · rw [if_neg hA]
    by_cases h : p / 64 = e / 64 ∧ p % 64 < af - secsN e r L * 64
    · have h2 : p / 64 = e / 64 ∧ p % 64 + secsN e r L * 64 < af := by omega
      rw [if_pos h, if_pos h2]
    · have h2 : ¬ (p / 64 = e / 64 ∧ p % 64 + secsN e r L * 64 < af) := by omega
      rw [if_neg h, if_neg h2]
end
theorem firstN_ge (n k : Nat) : 1 ≤ firstN n k := by unfold firstN; omega
theorem apD_0 {D : Nat → Nat → Int} {b : Nat → Int} {s e r L : Nat} {R : Nat → Int} {af : Nat} (hs : 1 ≤ s) (j : Nat) : apD D b s e r L R af 0 j = D 0 j := by
  unfold apD
  generalize hX : wrR D (ap1 b e r R) (s + e / 64) (e / 64) af (secsN e r L) = X
  have h0 : X 0 j = D 0 j := by
    rw [← hX]; unfold wrR; rw [if_neg (by omega)]
  unfold wrR
  rw [if_neg (by omega)]
  exact h0
theorem cut_parts {n : Nat} {m : Nat → Nat} {D : Nat → Nat → Int} (hD : BytD D) {r : Nat} (R : Nat → Int) (af : Nat) (hv_ : vB n m D = true) (hfit : fitB n D r = true) :
    ∃ k : Nat, Szd n m ∧ k ≤ 1 ∧ D 0 0 = (k : Int) ∧ apH n D r R af 0 0 = (k : Int) ∧ okP (halfF n D k) (hlf n * 64) = true ∧ hv n D = halfF n D k ∧ endP (halfF n D k) (hlf n * 64) + (r + 3) ≤ hlf n * 64 ∧
      ∀ p, p < hlf n * 64 → halfF n (apH n D r R af) k p = (if lim n D r < af then (if endP (halfF n D k) (hlf n * 64) / 64 ≤ p / 64 ∧ p / 64 < endP (halfF n D k) (hlf n * 64) / 64 + secsN (endP (halfF n D k) (hlf n * 64)) r (hlf n * 64) then ap2 (halfF n D k) (endP (halfF n D k) (hlf n * 64)) r R p else halfF n D k p)
        else (if p / 64 = endP (halfF n D k) (hlf n * 64) / 64 ∧ p % 64 + secsN (endP (halfF n D k) (hlf n * 64)) r (hlf n * 64) * 64 < af then ap2 (halfF n D k) (endP (halfF n D k) (hlf n * 64)) r R p else if endP (halfF n D k) (hlf n * 64) / 64 ≤ p / 64 ∧ p / 64 < endP (halfF n D k) (hlf n * 64) / 64 + secsN (endP (halfF n D k) (hlf n * 64)) r (hlf n * 64) ∧ (p / 64 - endP (halfF n D k) (hlf n * 64) / 64) * 64 + p % 64 < af then ap1 (halfF n D k) (endP (halfF n D k) (hlf n * 64)) r R p else halfF n D k p)) := by
  obtain ⟨k, hs, hk1, hk, hok⟩ := vB_parts hD hv_
  have hh := hv_k (n := n) hk
  have hf := of_decide_eq_true hfit
  rw [hh] at hf
  have e0 : apH n D r R af = apD D (halfF n D k) (firstN n k) (endP (halfF n D k) (hlf n * 64)) r (hlf n * 64) R af := by unfold apH; rw [hh, hk, Int.toNat_natCast]
  refine ⟨k, hs, hk1, hk, ?_, hok, hh, hf, fun p hp => ?_⟩
  · rw [e0, apD_0 (firstN_ge n k)]; exact hk
  · have := apD_half (D := D) (b := halfF n D k) (s := firstN n k) (e := endP (halfF n D k) (hlf n * 64)) (L := hlf n * 64) (r := r) (R := R) (af := af) (j := 0) hp (by omega) (fun p hp => rfl) hf
    unfold lim
    rw [hh]
    rw [e0]
    exact this
theorem okP_end {b : Nat → Int} {L : Nat} (h : okP b L = true) (he : endP b L < L) : b (endP b L) = 0 := by
  have := of_decide_eq_true h
  rcases this with h | h
  · omega
  · exact h.2
/-- The power failed ahead of the byte that tells of the new record. -/
theorem cut_old {n : Nat} {m : Nat → Nat} {D : Nat → Nat → Int} (hD : BytD D) {r : Nat} (R : Nat → Int) {af : Nat} (hv_ : vB n m D = true) (hfit : fitB n D r = true) (h : af ≤ lim n D r) :
    Has n c64 (apH n D r R af) (readN n m D) (recL (hv n D)) (recF (hv n D)) := by
  obtain ⟨k, hs, hk1, hk, hk', hok, hh, hf, hc⟩ := cut_parts hD R af hv_ hfit
  have hlim : lim n D r = secsN (endP (halfF n D k) (hlf n * 64)) r (hlf n * 64) * 64 + endP (halfF n D k) (hlf n * 64) % 64 := by unfold lim; rw [hh]
  generalize hee : endP (halfF n D k) (hlf n * 64) = e at *
  have lt : ∀ p, p < e → halfF n (apH n D r R af) k p = halfF n D k p := fun p hp => by
    rw [hc p (by omega), if_neg (by omega)]
    split
    · exact ap2_lt hp
    · split
      · exact ap1_lt hp
      · rfl
  have at_e : halfF n (apH n D r R af) k e = 0 := by
    rw [hc e (by omega), if_neg (by omega), if_neg (by omega)]
    split
    · unfold ap1; rw [if_pos rfl]
    · rw [← hee]; exact okP_end hok (by rw [hee]; omega)
  obtain ⟨g1, g2, g3, g4⟩ := par_keep (b := halfF n D k) (c := halfF n (apH n D r R af) k) (L := hlf n * 64) (by rw [hee]; exact lt) (by rw [hee]; exact fun _ => at_e)
  have hs0 := Has.self hv_
  have hq : readN n m D = cnt (halfF n D k) (hlf n * 64) := by unfold readN; rw [if_pos hv_, hh]
  refine Has.of hs.c64 hk1 hk' (g1.trans hq.symm) ?_ g3 fun i hi => ?_
  · rw [g2, hee, ← hs0.e, hh, hee]
  · rw [hh]; exact g4 i (by rw [← hq]; exact hi)
/-- The byte that tells of the new record is written. -/
theorem cut_new {n : Nat} {m : Nat → Nat} {D : Nat → Nat → Int} (hD : BytD D) {r : Nat} (R : Nat → Int) {af : Nat} (hr : r ≤ 65535) (hv_ : vB n m D = true) (hfit : fitB n D r = true) (h : lim n D r < af) :
    Has n c64 (apH n D r R af) (readN n m D + 1) (snocM (readN n m D) (recL (hv n D)) r) (snocD (readN n m D) (recF (hv n D)) R) := by
  obtain ⟨k, hs, hk1, hk, hk', hok, hh, hf, hc⟩ := cut_parts hD R af hv_ hfit
  have hs0 := Has.self hv_
  have hq : readN n m D = cnt (halfF n D k) (hlf n * 64) := by unfold readN; rw [if_pos hv_, hh]
  have hend := hs0.e
  rw [hh] at hend
  rw [hh, hq]
  rw [hq] at hend
  generalize hee : endP (halfF n D k) (hlf n * 64) = e at *
  have hsec : secsN e r (hlf n * 64) = lastN e r (hlf n * 64) / 64 + 1 - e / 64 := rfl
  have hlast : lastN e r (hlf n * 64) = min (e + (r + 3)) (hlf n * 64 - 1) := rfl
  have lt : ∀ p, p < e → halfF n (apH n D r R af) k p = halfF n D k p := fun p hp => by
    rw [hc p (by omega), if_pos h]
    split
    · exact ap2_lt hp
    · rfl
  have frm : ∀ j, j < r + 3 → halfF n (apH n D r R af) k (e + j) = formF r R j := fun j hj => by
    rw [hc _ (by omega), if_pos h, if_pos (by omega)]
    exact ap2_form hj
  have fin : e + (r + 3) < hlf n * 64 → halfF n (apH n D r R af) k (e + (r + 3)) = 0 := fun hl => by
    rw [hc _ hl, if_pos h, if_pos (by omega)]
    exact ap2_end
  obtain ⟨g1, g2, g3, g4, g5, g6⟩ := par_app (b := halfF n D k) (c := halfF n (apH n D r R af) k) (L := hlf n * 64) hr (by rw [hee]; exact lt) (by rw [hee]; exact frm) (by rw [hee]; exact hf) (by rw [hee]; exact fin)
  refine Has.of hs.c64 hk1 hk' g1 ?_ g3 fun i hi => ?_
  · rw [g2, hee]
    show _ = encP (snocM _ _ r) (cnt (halfF n D k) (hlf n * 64)) + (snocM _ _ r (cnt (halfF n D k) (hlf n * 64)) + 3)
    rw [encP_congr (m' := recL (halfF n D k)) _ (fun i hi => by unfold snocM; rw [if_pos hi]), ← hend]
    unfold snocM
    rw [if_neg (Nat.lt_irrefl _)]
  · unfold snocM snocD
    by_cases hi2 : i < cnt (halfF n D k) (hlf n * 64)
    · rw [if_pos hi2, if_pos hi2]; exact g4 i hi2
    · obtain rfl : i = cnt (halfF n D k) (hlf n * 64) := by omega
      rw [if_neg hi2, if_neg hi2]; exact ⟨g5, g6⟩
theorem cmpD_0 {n : Nat} {D : Nat → Nat → Int} {n' : Nat} {m' : Nat → Nat} {D' : Nat → Nat → Int} {af : Nat} : cmpD n D n' m' D' af 0 0 = if hlf n * 64 < af then 1 - D 0 0 else D 0 0 := by
  have hf := firstN_ge n (1 - (D 0 0).toNat)
  unfold cmpD
  generalize hX : wrR D (cmpF m' D' n') (firstN n (1 - (D 0 0).toNat)) 0 af (hlf n) = X
  have h0 : X 0 0 = D 0 0 := by
    rw [← hX]; unfold wrR; rw [if_neg (by omega)]
  unfold wrR
  by_cases h : hlf n * 64 < af
  · rw [if_pos (by omega), if_pos h]; rfl
  · rw [if_neg (by omega), if_neg h]; exact h0
/-- A compaction: the power failed ahead of the switch. -/
theorem cmp_old {n : Nat} {m : Nat → Nat} {D : Nat → Nat → Int} (hD : BytD D) (n' : Nat) (m' : Nat → Nat) (D' : Nat → Nat → Int) {af : Nat} (hv_ : vB n m D = true) (h : af ≤ hlf n * 64) :
    Has n c64 (cmpD n D n' m' D' af) (readN n m D) (recL (hv n D)) (recF (hv n D)) := by
  obtain ⟨k, hs, hk1, hk, hok⟩ := vB_parts hD hv_
  have hh := hv_k (n := n) hk
  have hk' : cmpD n D n' m' D' af 0 0 = (k : Int) := by rw [cmpD_0, if_neg (by omega)]; exact hk
  have same : ∀ p, p < hlf n * 64 → halfF n (cmpD n D n' m' D' af) k p = halfF n D k p := fun p hp => by
    show cmpD n D n' m' D' af (firstN n k + p / 64) (p % 64) = D (firstN n k + p / 64) (p % 64)
    have h1 : firstN n 0 = 1 := by simp [firstN]
    have h2 : firstN n 1 = 1 + hlf n := by simp [firstN, hlf]
    unfold cmpD
    rw [hk, Int.toNat_natCast]
    generalize hX : wrR D (cmpF m' D' n') (firstN n (1 - k)) 0 af (hlf n) = X
    have h0 : X (firstN n k + p / 64) (p % 64) = D (firstN n k + p / 64) (p % 64) := by
      rw [← hX]; unfold wrR
      rw [if_neg]
      rcases (by omega : k = 0 ∨ k = 1) with rfl | rfl
      · simp only [Nat.sub_zero]; rw [h1, h2]; omega
      · rw [show 1 - 1 = 0 from rfl, h1, h2]; omega
    have hge := firstN_ge n k
    unfold wrR
    rw [if_neg (by omega)]
    exact h0
  obtain ⟨g1, g2, g3, g4⟩ := par_keep (b := halfF n D k) (c := halfF n (cmpD n D n' m' D' af) k) (L := hlf n * 64) (fun p hp => same p (by have := endP_le (halfF n D k) (hlf n * 64); omega)) (fun hl => by rw [same _ hl]; exact okP_end hok hl)
  have hs0 := Has.self hv_
  have hq : readN n m D = cnt (halfF n D k) (hlf n * 64) := by unfold readN; rw [if_pos hv_, hh]
  refine Has.of hs.c64 hk1 hk' (g1.trans hq.symm) ?_ g3 fun i hi => ?_
  · rw [g2, ← hs0.e, hh]
  · rw [hh]; exact g4 i (by rw [← hq]; exact hi)
/-- .. and behind the switch. -/
theorem cmp_new {n : Nat} {m : Nat → Nat} {D : Nat → Nat → Int} (hD : BytD D) (n' : Nat) (m' : Nat → Nat) (D' : Nat → Nat → Int) {af : Nat} (hv_ : vB n m D = true) (hm : ∀ i, i < n' → m' i ≤ 65535) (hfit : encP m' n' ≤ hlf n * 64) (h : hlf n * 64 < af) :
    Has n c64 (cmpD n D n' m' D' af) n' m' D' := by
  obtain ⟨k, hs, hk1, hk, hok⟩ := vB_parts hD hv_
  have hk' : cmpD n D n' m' D' af 0 0 = ((1 - k : Nat) : Int) := by rw [cmpD_0, if_pos h]; omega
  have same : ∀ p, p < hlf n * 64 → halfF n (cmpD n D n' m' D' af) (1 - k) p = cmpF m' D' n' p := fun p hp => by
    show cmpD n D n' m' D' af (firstN n (1 - k) + p / 64) (p % 64) = _
    have hge := firstN_ge n (1 - k)
    unfold cmpD
    rw [hk, Int.toNat_natCast]
    generalize hX : wrR D (cmpF m' D' n') (firstN n (1 - k)) 0 af (hlf n) = X
    have h0 : X (firstN n (1 - k) + p / 64) (p % 64) = cmpF m' D' n' p := by
      rw [← hX]; unfold wrR
      rw [if_pos (by omega), show 0 * 64 + (firstN n (1 - k) + p / 64 - firstN n (1 - k)) * 64 + p % 64 = p by omega]
    unfold wrR
    rw [if_neg (by omega)]
    exact h0
  obtain ⟨g1, g2, g3, g4⟩ := par_enc (c := halfF n (cmpD n D n' m' D' af) (1 - k)) (L := hlf n * 64) hm hfit same
  exact Has.of hs.c64 (by omega) hk' g1 g2 g3 g4
/-- Two lists of records that a disk has. -/
theorem Has.recs {n : Nat} {m : Nat → Nat} {D : Nat → Nat → Int} {q : Nat} {M : Nat → Nat} {F : Nat → Nat → Int} (h : Has n m D q M F) : recsB (readN n m D) (recL (hv n D)) (recF (hv n D)) q M F = true :=
  decide_eq_true ⟨h.c, fun i hi => ⟨(h.r i (by rw [← h.c]; exact hi)).1, fun j hj => (h.r i (by rw [← h.c]; exact hi)).2 j (by rw [← (h.r i (by rw [← h.c]; exact hi)).1]; exact hj)⟩⟩
end Go.Proofs.Ytifoncmlelinjaa
