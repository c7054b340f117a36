/- Q: plain laws of the concerned offices: an end pair for each place, order, signed, moved, history. -/
import Derived.Test.YtbckibbgajfihaaK
set_option linter.unusedVariables false
set_option linter.unusedSimpArgs false
namespace Go.Proofs.Ytbckibbgajfihaa
open Go.RowKit Go.Sea Go.Lib
theorem rep (x : Int) : ∀ l : List Int, (∀ z, z ∈ l → x < z) ∨ ∃ u, u ∈ l ∧ u ≤ x ∧ ∀ z, z ∈ l → z ≤ x → z ≤ u
  | [] => Or.inl fun z hz => by cases hz
  | c :: l => by
    rcases rep x l with h | ⟨u, h1, h2, h3⟩
    · by_cases hc : c ≤ x
      · refine Or.inr ⟨c, List.mem_cons_self, hc, fun z hz hzx => ?_⟩
        rcases List.mem_cons.1 hz with rfl | hz
        · exact Int.le_refl _
        · have := h z hz; omega
      · refine Or.inl fun z hz => ?_
        rcases List.mem_cons.1 hz with rfl | hz
        · omega
        · exact h z hz
    · by_cases hc : c ≤ x ∧ u < c
      · refine Or.inr ⟨c, List.mem_cons_self, hc.1, fun z hz hzx => ?_⟩
        rcases List.mem_cons.1 hz with rfl | hz
        · exact Int.le_refl _
        · have := h3 z hz hzx; omega
      · refine Or.inr ⟨u, List.mem_cons_of_mem _ h1, h2, fun z hz hzx => ?_⟩
        rcases List.mem_cons.1 hz with rfl | hz
        · omega
        · exact h3 z hz hzx
theorem mem_endL {g : Nat → Nat → Int} {p q : Nat} {z : Int} : ∀ m, z ∈ endL g p q m ↔ ∃ k, k < m ∧ (z = g k p ∨ z = g k q ∨ z = g k p + 1 ∨ z = g k q + 1)
  | 0 => ⟨fun h => by simp [endL] at h, fun ⟨k, hk, _⟩ => absurd hk (Nat.not_lt_zero _)⟩
  | m + 1 => by
    simp only [endL, List.mem_append, List.mem_cons, List.not_mem_nil, or_false]
    rw [mem_endL m]
    constructor
    · rintro ((⟨k, hk, h⟩ | h) | h)
      · exact ⟨k, by omega, h⟩
      · exact ⟨m, by omega, by omega⟩
      · exact ⟨m, by omega, by omega⟩
    · rintro ⟨k, hk, h⟩
      rcases Nat.lt_or_ge k m with h1 | h1
      · exact Or.inl (Or.inl ⟨k, h1, h⟩)
      · obtain rfl : k = m := by omega
        rcases h with h | h | h | h
        · exact Or.inl (Or.inr (Or.inl h))
        · exact Or.inl (Or.inr (Or.inr h))
        · exact Or.inr (Or.inl h)
        · exact Or.inr (Or.inr h)
/-- Whose end a number is. -/
def isEnd (A : Acc) (p q : Nat) (z : Int) : Prop := ∃ k, k < A.m ∧ (z = A.sh k p ∨ z = A.sh k q ∨ z = A.sh k p + 1 ∨ z = A.sh k q + 1)
theorem mem_raw {A B : Acc} {p q : Nat} {z : Int} : z ∈ endL (catG A.sh A.m B.sh) p q (A.m + B.m) ↔ isEnd A p q z ∨ isEnd B p q z := by
  rw [mem_endL]
  constructor
  · rintro ⟨k, hk, h⟩
    unfold catG at h
    by_cases hk' : k < A.m
    · simp only [hk', if_true] at h; exact Or.inl ⟨k, hk', h⟩
    · simp only [hk', if_false] at h; exact Or.inr ⟨k - A.m, by omega, h⟩
  · rintro (⟨k, hk, h⟩ | ⟨k, hk, h⟩)
    · refine ⟨k, by omega, ?_⟩
      simp only [catG, hk, if_true]; exact h
    · refine ⟨A.m + k, by omega, ?_⟩
      have h0 : ¬ A.m + k < A.m := by omega
      have h1 : A.m + k - A.m = k := by omega
      simp only [catG, h0, if_false, h1]; exact h
theorem of_cong {sh : Nat → Nat → Int} {x y u v : Int} : ∀ k, (∀ i, i < k → hasB (sh i 1) (sh i 2) (sh i 3) (sh i 4) x y = hasB (sh i 1) (sh i 2) (sh i 3) (sh i 4) u v) → ofF sh x y k = ofF sh u v k
  | 0, _ => rfl
  | k + 1, h => by
    simp only [ofF]
    rw [of_cong k fun i hi => h i (by omega), h k (by omega)]
theorem of_none {sh : Nat → Nat → Int} {x y : Int} : ∀ k, (∀ i, i < k → hasB (sh i 1) (sh i 2) (sh i 3) (sh i 4) x y = false) → ofF sh x y k = 0
  | 0, _ => rfl
  | k + 1, h => by
    simp only [ofF]
    rw [of_none k fun i hi => h i (by omega), h k (by omega)]
    simp
theorem has_rep {a b c d x y u v : Int} (h1 : a ≤ x → a ≤ u) (h2 : b + 1 ≤ x → b + 1 ≤ u) (h3 : u ≤ x) (g1 : c ≤ y → c ≤ v) (g2 : d + 1 ≤ y → d + 1 ≤ v) (g3 : v ≤ y) : hasB a b c d x y = hasB a b c d u v := by
  unfold hasB
  rw [decide_eq_decide]
  constructor
  · rintro ⟨⟨p1, p2⟩, p3, p4⟩
    have := h1 p1; have := g1 p3
    omega
  · rintro ⟨⟨p1, p2⟩, p3, p4⟩
    refine ⟨⟨by omega, ?_⟩, by omega, ?_⟩
    · refine Classical.byContradiction fun hn => ?_
      have := h2 (by omega); omega
    · refine Classical.byContradiction fun hn => ?_
      have := g2 (by omega); omega
theorem of_le {A : Acc} (hA : Bd A) {x y : Int} (h : ofV A x y ≠ 0) : x ≤ 1000000 ∧ y ≤ 1000000 := by
  obtain ⟨i, hi, h1, _⟩ := of_ex A.m h
  have := of_decide_eq_true h1
  have := hA.c i hi
  omega
theorem conc {A B : Acc} (hA : Bd A) (hB : Bd B) {x y : Int} (h : ofV A x y ≠ ofV B x y) {n : Int} (hn : n = ofV A x y ∨ n = ofV B x y) (h0 : n ≠ 0) : n ∈ conL A B := by
  have nil : ∀ F : Acc, F = A ∨ F = B → ((∀ z, z ∈ rawX A B → x < z) ∨ (∀ z, z ∈ rawY A B → y < z)) → ofV F x y = 0 := fun F hF hz => by
    refine of_none F.m fun i hi => ?_
    have e1 : F.sh i 1 ∈ rawX A B := mem_raw.2 (by rcases hF with rfl | rfl; exact Or.inl ⟨i, hi, Or.inl rfl⟩; exact Or.inr ⟨i, hi, Or.inl rfl⟩)
    have e2 : F.sh i 3 ∈ rawY A B := mem_raw.2 (by rcases hF with rfl | rfl; exact Or.inl ⟨i, hi, Or.inl rfl⟩; exact Or.inr ⟨i, hi, Or.inl rfl⟩)
    refine decide_eq_false fun hh => ?_
    rcases hz with hz | hz
    · have := hz _ e1; omega
    · have := hz _ e2; omega
  rcases rep x (rawX A B) with hx | ⟨u, u1, u2, u3⟩
  · exact absurd ((nil A (Or.inl rfl) (Or.inl hx)).trans (nil B (Or.inr rfl) (Or.inl hx)).symm) h
  rcases rep y (rawY A B) with hy | ⟨v, v1, v2, v3⟩
  · exact absurd ((nil A (Or.inl rfl) (Or.inr hy)).trans (nil B (Or.inr rfl) (Or.inr hy)).symm) h
  have same : ∀ F : Acc, F = A ∨ F = B → ofV F x y = ofV F u v := fun F hF => by
    refine of_cong F.m fun i hi => ?_
    have e : ∀ p q z, (z = F.sh i p ∨ z = F.sh i q ∨ z = F.sh i p + 1 ∨ z = F.sh i q + 1) → z ∈ endL (catG A.sh A.m B.sh) p q (A.m + B.m) := fun p q z hz => mem_raw.2 (by rcases hF with rfl | rfl; exact Or.inl ⟨i, hi, hz⟩; exact Or.inr ⟨i, hi, hz⟩)
    exact has_rep (fun h => u3 _ (e 1 2 _ (Or.inl rfl)) h) (fun h => u3 _ (e 1 2 _ (Or.inr (Or.inr (Or.inr rfl)))) h) u2 (fun h => v3 _ (e 3 4 _ (Or.inl rfl)) h) (fun h => v3 _ (e 3 4 _ (Or.inr (Or.inr (Or.inr rfl)))) h) v2
  have sA := same A (Or.inl rfl)
  have sB := same B (Or.inr rfl)
  have bA := ofV_bd hA u v
  have bB := ofV_bd hB u v
  have hle : u ≤ 1000000 ∧ v ≤ 1000000 := by
    by_cases z : ofV A u v = 0
    · exact of_le hB (by omega)
    · exact of_le hA z
  refine con_mem.2 ⟨n.toNat, by omega, by omega, by omega, u, u1, v, v1, ⟨hle.1, hle.2, by omega⟩, by omega⟩
theorem hasL_mem {l : List Int} {n : Int} (h : n ∈ l) : hasL l.length (fun i => l.getD i 0) n = true := by
  obtain ⟨i, hi, e⟩ := List.getElem_of_mem h
  exact decide_eq_true ⟨i, hi, by simp [List.getD, hi, e]⟩
theorem shows_comm {A B : Acc} {x y : Int} {n : Nat} (h : shows A B x y n) : shows B A x y n := ⟨⟨h.1.1, h.1.2.1, fun e => h.1.2.2 e.symm⟩, h.2.symm⟩
theorem outL_cong {f g : Nat → Bool} : ∀ k, (∀ n, n < k → f n = g n) → outL f k = outL g k
  | 0, _ => rfl
  | k + 1, h => by
    simp only [outL]
    rw [outL_cong k fun n hn => h n (by omega), h k (by omega)]
theorem con_comm (A B : Acc) : conL A B = conL B A := by
  rw [con_raw, con_raw]
  refine outL_cong 21 fun n _ => ?_
  rw [Bool.eq_iff_iff, chAll_iff, chAll_iff]
  have hX : ∀ z, z ∈ rawX A B ↔ z ∈ rawX B A := fun z => by unfold rawX; rw [mem_raw, mem_raw]; exact or_comm
  have hY : ∀ z, z ∈ rawY A B ↔ z ∈ rawY B A := fun z => by unfold rawY; rw [mem_raw, mem_raw]; exact or_comm
  constructor
  · rintro ⟨x, hx, y, hy, h⟩; exact ⟨x, (hX x).1 hx, y, (hY y).1 hy, shows_comm h⟩
  · rintro ⟨x, hx, y, hy, h⟩; exact ⟨x, (hX x).2 hx, y, (hY y).2 hy, shows_comm h⟩
theorem con_self (A : Acc) : conL A A = [] := by
  refine List.eq_nil_iff_forall_not_mem.2 fun x hx => ?_
  obtain ⟨n, _, _, _, u, _, v, _, h⟩ := con_mem.1 hx
  exact h.1.2.2 rfl
theorem outL_lt {f : Nat → Bool} {x : Int} {k : Nat} (h : x ∈ outL f k) : x < k := by
  obtain ⟨n, h1, _, _, rfl⟩ := (outL_mem k).1 h
  omega
theorem outL_asc {f : Nat → Bool} : ∀ k i, i + 1 < (outL f k).length → (outL f k).getD i 0 < (outL f k).getD (i + 1) 0
  | 0, i, h => by simp [outL] at h
  | k + 1, i, h => by
    have ih := outL_asc (f := f) k i
    have lt : ∀ i, i < (outL f k).length → (outL f k).getD i 0 < k := fun i hi => outL_lt (by simp only [List.getD, List.getElem?_eq_getElem hi, Option.getD_some]; exact List.getElem_mem _)
    simp only [outL] at h ⊢
    split
    · rename_i hc
      rw [if_pos hc, List.length_append, List.length_singleton] at h
      rcases Nat.lt_or_ge (i + 1) (outL f k).length with h1 | h1
      · have := ih h1
        simp only [List.getD] at this ⊢
        rw [List.getElem?_append_left (by omega), List.getElem?_append_left h1]
        exact this
      · have := lt i (by omega)
        simp only [List.getD] at this ⊢
        rw [List.getElem?_append_left (by omega), List.getElem?_append_right (by omega), show i + 1 - (outL f k).length = 0 by omega]
        simpa using this
    · rename_i hc
      rw [if_neg hc] at h
      exact ih h
theorem con_asc (A B : Acc) (i : Nat) (h : i + 1 < (conL A B).length) : (conL A B).getD i 0 < (conL A B).getD (i + 1) 0 := outL_asc 21 i h
theorem con_bd {A B : Acc} {x : Int} (h : x ∈ conL A B) : 1 ≤ x ∧ x ≤ 20 := by
  obtain ⟨n, h1, h2, rfl, _⟩ := con_mem.1 h
  omega
theorem of_in {F : Acc} (hv : valB F = true) {x y : Int} {i : Nat} (hi : i < F.m) (hin : inB (F.sh i 1) (F.sh i 2) (F.sh i 3) (F.sh i 4) x y = true) : ofV F x y = F.sh i 0 := by
  have hb : ∀ i, i < F.m → 1 ≤ F.sh i 0 ∧ F.sh i 0 ≤ 20 := fun i hi => (of_decide_eq_true ((of_decide_eq_true hv).2.1 i hi).1).1
  have hh : hasB (F.sh i 1) (F.sh i 2) (F.sh i 3) (F.sh i 4) x y = true := by
    have := of_decide_eq_true hin
    unfold hasB; exact decide_eq_true (by omega)
  have g := of_ge (x := x) (y := y) F.m hb i hi hh
  obtain ⟨j, hj, hj1, hj2⟩ := of_ex (sh := F.sh) (x := x) (y := y) F.m (by omega)
  have := in_clash hv hi hj hin hj1
  show ofF F.sh x y F.m = F.sh i 0
  omega
theorem cmp_t {a b : Acc} (ha : valB a = true) (hb : valB b = true) : cmpB a b = true := by
  unfold cmpB; rw [ha, hb, Bool.or_true]; rfl
theorem mvQ_mem {A B : Acc} {i : Nat} {s : Nat → Int} : ∀ {l : List (Nat → Int)} j, s ∈ mvQ A B i l j → s ∈ l ∨ ∃ j', j' < j ∧ clM A B i j' ∧ s = shM A B i j'
  | l, 0, h => Or.inl h
  | l, j + 1, h => by
    simp only [mvQ] at h
    split at h
    · rename_i hc
      rcases List.mem_append.1 h with h | h
      · rcases mvQ_mem j h with h | ⟨j', h1, h2⟩
        · exact Or.inl h
        · exact Or.inr ⟨j', by omega, h2⟩
      · exact Or.inr ⟨j, by omega, hc, List.mem_singleton.1 h⟩
    · rcases mvQ_mem j h with h | ⟨j', h1, h2⟩
      · exact Or.inl h
      · exact Or.inr ⟨j', by omega, h2⟩
theorem mvO_mem {A B : Acc} {s : Nat → Int} : ∀ i, s ∈ mvO A B i → ∃ i', i' < i ∧ ∃ j, j < A.m ∧ clM A B i' j ∧ s = shM A B i' j
  | 0, h => by simp [mvO] at h
  | i + 1, h => by
    simp only [mvO] at h
    rcases mvQ_mem A.m h with h | ⟨j, h1, h2⟩
    · obtain ⟨i', h1, h2⟩ := mvO_mem i h
      exact ⟨i', by omega, h2⟩
    · exact ⟨i, by omega, j, h1, h2⟩
theorem mvR_self {a : Acc} (ha : valB a = true) : mvR a a = [] := by
  unfold mvR; rw [if_pos (cmp_t ha ha)]
  refine List.eq_nil_iff_forall_not_mem.2 fun s hs => ?_
  obtain ⟨i, hi, j, hj, ⟨h1, h2⟩, _⟩ := mvO_mem a.m hs
  simp only [insB, Bool.and_eq_true, decide_eq_true_eq] at h2
  obtain ⟨⟨_, _⟩, h3, h4⟩ := h2
  have hb := (of_decide_eq_true ha).2.1
  have key : ∀ p q : Nat, q < p → p < a.m → a.sh p 0 ≠ a.sh q 0 → (max (a.sh p 1) (a.sh q 1) < min (a.sh p 2) (a.sh q 2) ∧ max (a.sh p 3) (a.sh q 3) < min (a.sh p 4) (a.sh q 4)) → False := fun p q hqp hp hne' hm => by
    have sp := of_decide_eq_true (hb p hp).1
    have sq := of_decide_eq_true (hb q (by omega)).1
    have vb : ∀ p q r s : Int, (-1000000 ≤ p ∧ p < q ∧ q ≤ 1000000) → (-1000000 ≤ r ∧ r < s ∧ s ≤ 1000000) → vbox p q r s = true := fun p q r s h h' => by
      unfold vbox; simp only [Bool.and_eq_true, decide_eq_true_eq]; omega
    have := (hb p hp).2 q hqp
    unfold clB insB at this
    rw [vb _ _ _ _ sp.2.1 sp.2.2, vb _ _ _ _ sq.2.1 sq.2.2, decide_eq_true hne', decide_eq_true hm] at this
    cases this
  rcases Nat.lt_trichotomy i j with h | h | h
  · exact key j i h hj (Ne.symm h1) (by omega)
  · subst h; exact h1 rfl
  · exact key i j h hi h1 (by omega)
/-- A row of the water that goes from one office to another one. -/
theorem mv_row {a b : Acc} (ha : valB a = true) (hb : valB b = true) (hq : a.q ≤ 9223372036854775807) (hr : b.q ≤ 9223372036854775807) {x y : Int} {k : Nat} (hk : k < (mvR a b).length) (s : Nat → Int) (hs : (mvR a b).getD k (fun _ => 0) = s) (hin : inB (s 1) (s 2) (s 3) (s 4) x y = true) :
    0 < ofV a x y ∧ ofV a x y ≠ ofV b x y ∧ ofV b x y = s 0 ∧ hasL (conL a b).length (fun i => (conL a b).getD i 0) (ofV a x y) = true ∧ hasL (conL a b).length (fun i => (conL a b).getD i 0) (ofV b x y) = true := by
  have hm : s ∈ mvR a b := by
    rw [← hs]; simp only [List.getD, List.getElem?_eq_getElem hk, Option.getD_some]; exact List.getElem_mem _
  unfold mvR at hm
  rw [if_pos (cmp_t ha hb)] at hm
  obtain ⟨i, hi, j, hj, ⟨h1, h2⟩, rfl⟩ := mvO_mem b.m hm
  have h2' := h2
  simp only [insB, Bool.and_eq_true, decide_eq_true_eq] at h2'
  obtain ⟨⟨v1, v2⟩, h3, h4⟩ := h2'
  have e0 : mbE (b.sh i 1) (b.sh i 2) (b.sh i 3) (b.sh i 4) (a.sh j 1) (a.sh j 2) (a.sh j 3) (a.sh j 4) = 0 := by
    unfold mbE mbV mbN
    rw [v1, v2, decide_eq_false (by omega)]; rfl
  simp only [shM, e0, mbx, if_true] at hin
  have hin' := of_decide_eq_true hin
  have i1 : inB (a.sh j 1) (a.sh j 2) (a.sh j 3) (a.sh j 4) x y = true := decide_eq_true (by omega)
  have i2 : inB (b.sh i 1) (b.sh i 2) (b.sh i 3) (b.sh i 4) x y = true := decide_eq_true (by omega)
  have oa := of_in ha hj i1
  have ob := of_in hb hi i2
  have sa := (of_decide_eq_true ((of_decide_eq_true ha).2.1 j hj).1).1
  have sb := (of_decide_eq_true ((of_decide_eq_true hb).2.1 i hi).1).1
  have ne : ofV a x y ≠ ofV b x y := by omega
  exact ⟨by omega, ne, ob, hasL_mem (conc (bd_val ha hq) (bd_val hb hr) ne (Or.inl rfl) (by omega)), hasL_mem (conc (bd_val ha hq) (bd_val hb hr) ne (Or.inr rfl) (by omega))⟩
/-- Signed. -/
theorem fN_all {a : Nat → Acc} {t : Int} {k : Nat} (h : ∀ i, i < k → (a i).frm ≤ t) : fN a t k = k := by
  cases k with
  | zero => rfl
  | succ k => simp only [fN]; rw [if_neg (by have := h k (by omega); omega)]
theorem frm_le {a : Acc} (h : valB a = true) : 0 ≤ a.frm ∧ a.frm ≤ 10000000 := by
  have := of_decide_eq_true h
  omega
theorem list_le {n : Nat} {a : Nat → Acc} (h : listB n a = true) {k : Nat} (hk : k ≤ n) : listB k a = true := by
  have := list_all h
  exact decide_eq_true ⟨by omega, fun i hi => this.2 i (by omega)⟩
theorem ownB_list {n : Nat} {a : Nat → Acc} {x y t : Int} (h : listB n a = true) : ownB n a x y t = (vbox x x y y && decide (0 ≤ t ∧ t ≤ 10000000)) := by
  unfold ownB; rw [h, Bool.true_and]
theorem own_max {n : Nat} {a : Nat → Acc} (h : listB n a = true) {x y : Int} {k : Nat} (hk : k ≤ n) : (vbox x x y y = true → ownV k a x y 10000000 = ofV (lastA k a) x y) ∧ (ownE k a x y 10000000 = 1 ↔ vbox x x y y = false) := by
  have hl := list_le h hk
  have f := fN_all (a := a) (t := 10000000) (k := k) fun i hi => (frm_le (fol_0 ((list_all h).2 i (by omega))).1).2
  have hb := ownB_list (x := x) (y := y) (t := 10000000) hl
  rw [show decide ((0 : Int) ≤ 10000000 ∧ (10000000 : Int) ≤ 10000000) = true from rfl, Bool.and_true] at hb
  unfold ownV ownE ownN
  rw [hb, f]
  constructor
  · intro hv; rw [if_pos hv]
  · cases hv : vbox x x y y with
    | false => simp
    | true => simp; split <;> decide
theorem sgd_has {a b : Acc} (h : sgdB a b = true) {m : Int} (hm : m ∈ conL a b) : hasL b.q b.sg m = true := by
  obtain ⟨i, hi, e⟩ := List.getElem_of_mem hm
  have := of_decide_eq_true h i hi
  simpa [List.getD, hi, e] using this
theorem bd_l {n : Nat} {a : Nat → Acc} (h : listB n a = true) (ha : ∀ i, i < n → (a i).m ≤ 9223372036854775807 ∧ (a i).q ≤ 9223372036854775807) {k : Nat} (hk : k ≤ n) : Bd (lastA k a) := bd_last ha hk fun i hi => (list_all h).2 i (by omega)
theorem signed_e {n : Nat} {a : Nat → Acc} {x y : Int} (h : listB n a = true) {k : Nat} (hk : k < n) : (ownE k a x y 10000000 = 1 ↔ ownE (k + 1) a x y 10000000 = 1) := by
  rw [(own_max h (Nat.le_of_lt hk)).2, (own_max h hk).2]
theorem signed_v {n : Nat} {a : Nat → Acc} {x y : Int} (h : listB n a = true) (ha : ∀ i, i < n → (a i).m ≤ 9223372036854775807 ∧ (a i).q ≤ 9223372036854775807) {k : Nat} (hk : k < n) (he : ownE k a x y 10000000 ≠ 1) :
    ownV k a x y 10000000 = ownV (k + 1) a x y 10000000 ∨ ((ownV k a x y 10000000 = 0 ∨ hasL (a k).q (a k).sg (ownV k a x y 10000000) = true) ∧ (ownV (k + 1) a x y 10000000 = 0 ∨ hasL (a k).q (a k).sg (ownV (k + 1) a x y 10000000) = true)) := by
  have hv : vbox x x y y = true := by
    cases hv : vbox x x y y with
    | true => rfl
    | false => exact absurd ((own_max h (Nat.le_of_lt hk)).2.2 hv) he
  rw [(own_max h (Nat.le_of_lt hk)).1 hv, (own_max h hk).1 hv]
  have e : lastA (k + 1) a = a k := by unfold lastA; rw [if_neg (by omega)]; rfl
  rw [e]
  have f := fol_0 ((list_all h).2 k hk)
  have b1 := bd_l h ha (Nat.le_of_lt hk)
  have b2 := bd_val f.1 (ha k hk).2
  by_cases hne : ofV (lastA k a) x y = ofV (a k) x y
  · exact Or.inl hne
  · refine Or.inr ⟨?_, ?_⟩
    · by_cases h0 : ofV (lastA k a) x y = 0
      · exact Or.inl h0
      · exact Or.inr (sgd_has f.2.2.2 (conc b1 b2 hne (Or.inl rfl) h0))
    · by_cases h0 : ofV (a k) x y = 0
      · exact Or.inl h0
      · exact Or.inr (sgd_has f.2.2.2 (conc b1 b2 hne (Or.inr rfl) h0))
/-- History. -/
theorem last_push {n : Nat} {a : Nat → Acc} {b : Acc} {k : Nat} (hk : k ≤ n) : lastA k (pushA n a b) = lastA k a := by
  unfold lastA
  by_cases h : k = 0
  · rw [if_pos h, if_pos h]
  · rw [if_neg h, if_neg h]; unfold pushA; rw [if_pos (by omega)]
theorem push_n (n : Nat) (a : Nat → Acc) (b : Acc) : pushA n a b n = b := by unfold pushA; rw [if_neg (Nat.lt_irrefl n)]
theorem next_0 {n : Nat} {a : Nat → Acc} {b : Acc} (h : nextE n a b = 0) : listB n a = true ∧ valB b = true ∧ n < 20 ∧ folV (lastA n a) b = 0 := by
  unfold nextE at h
  by_cases h1 : listB n a = true ∧ valB b = true
  · rw [if_pos h1] at h
    by_cases h2 : 20 ≤ n
    · rw [if_pos h2] at h; omega
    · rw [if_neg h2] at h; exact ⟨h1.1, h1.2, by omega, h⟩
  · rw [if_neg h1] at h; omega
theorem push_list {n : Nat} {a : Nat → Acc} {b : Acc} (h : nextE n a b = 0) : listB (n + 1) (pushA n a b) = true := by
  obtain ⟨h1, h2, h3, h4⟩ := next_0 h
  refine decide_eq_true ⟨by omega, fun i hi => ?_⟩
  rw [last_push (by omega)]
  rcases Nat.lt_or_ge i n with h5 | h5
  · have e : pushA n a b i = a i := by unfold pushA; rw [if_pos h5]
    rw [e]; exact (list_all h1).2 i h5
  · obtain rfl : i = n := by omega
    rw [push_n]; exact h4
theorem fN_push {n : Nat} {a : Nat → Acc} {b : Acc} {t : Int} : ∀ k, k ≤ n → fN (pushA n a b) t k = fN a t k
  | 0, _ => rfl
  | k + 1, hk => by
    simp only [fN]
    rw [fN_push k (by omega)]
    have e : pushA n a b k = a k := by unfold pushA; rw [if_pos (by omega)]
    rw [e]
theorem hist_before {n : Nat} {a : Nat → Acc} {b : Acc} {x y t : Int} (h : nextE n a b = 0) (ht : t < b.frm) : ownV (n + 1) (pushA n a b) x y t = ownV n a x y t ∧ ownE (n + 1) (pushA n a b) x y t = ownE n a x y t := by
  have e : fN (pushA n a b) t (n + 1) = fN a t n := by
    simp only [fN]; rw [push_n, if_pos ht, fN_push n (Nat.le_refl n)]
  unfold ownV ownE ownN
  rw [ownB_list (push_list h), ownB_list (next_0 h).1, e, last_push (fN_le _ _ _)]
  exact ⟨rfl, rfl⟩
def all20 (i : Nat) : Int := (i : Int) + 1
def ownA (b : Acc) : Acc := ⟨b.ver, b.frm, b.m, b.sh, 20, all20⟩
theorem has20 {m : Int} (h : 1 ≤ m ∧ m ≤ 20) : hasL 20 all20 m = true := decide_eq_true ⟨m.toNat - 1, by omega, by unfold all20; omega⟩
theorem last20 : ∀ i, lastS all20 i = (i : Int)
  | 0 => rfl
  | i + 1 => by simp only [lastS, all20]; omega
theorem own_list {b : Acc} (h : valB b = true) : listB 1 (fun _ => ownA b) = true := by
  refine decide_eq_true ⟨by omega, fun i hi => ?_⟩
  obtain rfl : i = 0 := by omega
  have h' := of_decide_eq_true h
  have hv : valB (ownA b) = true := decide_eq_true ⟨h'.1, h'.2.1, fun i hi => by
    have hi' : i < 20 := hi
    rw [show (ownA b).sg = all20 from rfl, last20]; unfold all20; omega⟩
  have hs : sgdB (lastA 0 fun _ => ownA b) (ownA b) = true := decide_eq_true fun i hi => has20 (con_bd (A := lastA 0 fun _ => ownA b) (B := ownA b) (by simp only [List.getD, List.getElem?_eq_getElem hi, Option.getD_some]; exact List.getElem_mem _))
  unfold folV
  rw [hv, hs, if_neg (by decide), if_neg, if_neg (by decide)]
  have e1 : (lastA 0 fun _ => ownA b).ver = 0 := rfl
  have e2 : (lastA 0 fun _ => ownA b).frm = 0 := rfl
  have e3 : (ownA b).ver = b.ver := rfl
  have e4 : (ownA b).frm = b.frm := rfl
  rw [e1, e2, e3, e4]; omega
theorem hist_after {n : Nat} {a : Nat → Acc} {b : Acc} {x y t : Int} (h : nextE n a b = 0) (ht : b.frm ≤ t) : ownV (n + 1) (pushA n a b) x y t = ownV 1 (fun _ => ownA b) x y t ∧ ownE (n + 1) (pushA n a b) x y t = ownE 1 (fun _ => ownA b) x y t := by
  have e : fN (pushA n a b) t (n + 1) = n + 1 := by simp only [fN]; rw [push_n, if_neg (by omega)]
  have e1 : fN (fun _ => ownA b) t 1 = 1 := by simp only [fN]; rw [if_neg (by show ¬ t < b.frm; omega)]
  have l1 : lastA (n + 1) (pushA n a b) = b := by unfold lastA; rw [if_neg (by omega)]; exact push_n n a b
  have l2 : lastA 1 (fun _ => ownA b) = ownA b := rfl
  have o : ofV (ownA b) x y = ofV b x y := rfl
  unfold ownV ownE ownN
  rw [ownB_list (push_list h), ownB_list (own_list (next_0 h).2.1), e, e1, l1, l2, o]
  exact ⟨rfl, rfl⟩
end Go.Proofs.Ytbckibbgajfihaa
