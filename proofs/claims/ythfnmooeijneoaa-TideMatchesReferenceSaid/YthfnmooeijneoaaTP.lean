/- Plain facts about tables: stretches, heights, windows. -/
import Derived.Test.YthfnmooeijneoaaSeaS
import Derived.WalkKit
set_option linter.unusedVariables false
set_option linter.unusedSimpArgs false
namespace Go.Proofs.Ythfnmooeijneoaa
open Go.RowKit
def tm (t : Int) : Bool := decide (0 ≤ t ∧ t ≤ 10000000)
def sv (l u : Int) : Bool := decide (-1000000000000 ≤ l ∧ l ≤ u ∧ u ≤ 1000000000000)
def hv (l u : Int) : Bool := decide (-100000 ≤ l ∧ l ≤ u ∧ u ≤ 100000)
theorem be {p : Prop} [Decidable p] {b : Bool} (u : p ↔ b = true) : b = decide p := by cases b <;> simp_all
def allH (n : Nat) (lo hi : Nat → Int) : Bool := decide (∀ i, i < n → hv (lo i) (hi i) = true)
def tval (s st : Int) (n : Nat) (lo hi : Nat → Int) : Bool := decide (0 ≤ s ∧ s ≤ 10000000 ∧ 1 ≤ st ∧ st ≤ 1000 ∧ 1 ≤ n ∧ n ≤ 200 ∧ s + ((n : Int) - 1) * st ≤ 10000000) && allH n lo hi

theorem sv_dec {l u : Int} {b : Bool} (hs : sv l u = b) : (b = true → -1000000000000 ≤ l ∧ l ≤ u ∧ u ≤ 1000000000000) ∧ (b = false → ¬ (-1000000000000 ≤ l ∧ l ≤ u ∧ u ≤ 1000000000000)) := by
  subst hs; simp only [sv, decide_eq_true_eq, decide_eq_false_iff_not]; exact ⟨id, id⟩
def jE (s0 s1 t0 t1 : Int) : Int := bif sv s0 s1 && sv t0 t1 then 0 else 1
def jL (s0 s1 t0 t1 : Int) : Int := bif sv s0 s1 && sv t0 t1 then min s0 t0 else 0
def jH (s0 s1 t0 t1 : Int) : Int := bif sv s0 s1 && sv t0 t1 then max s1 t1 else 0
def aE (s0 s1 t0 t1 : Int) : Int := bif sv s0 s1 && sv t0 t1 then (bif sv (s0 + t0) (s1 + t1) then 0 else 3) else 1
def aL (s0 s1 t0 t1 : Int) : Int := bif sv s0 s1 && sv t0 t1 && sv (s0 + t0) (s1 + t1) then s0 + t0 else 0
def aH (s0 s1 t0 t1 : Int) : Int := bif sv s0 s1 && sv t0 t1 && sv (s0 + t0) (s1 + t1) then s1 + t1 else 0
def mE (s0 s1 t0 t1 : Int) : Int := bif sv s0 s1 && sv t0 t1 then (bif decide (min s1 t1 < max s0 t0) then 4 else 0) else 1
def mL (s0 s1 t0 t1 : Int) : Int := bif sv s0 s1 && sv t0 t1 && !decide (min s1 t1 < max s0 t0) then max s0 t0 else 0
def mH (s0 s1 t0 t1 : Int) : Int := bif sv s0 s1 && sv t0 t1 && !decide (min s1 t1 < max s0 t0) then min s1 t1 else 0
theorem sv_bd {l u : Int} (h : sv l u = true) : -1000000000000 ≤ l ∧ l ≤ u ∧ u ≤ 1000000000000 := of_decide_eq_true h
theorem sv_t {l u : Int} (h : -1000000000000 ≤ l ∧ l ≤ u ∧ u ≤ 1000000000000) : sv l u = true := decide_eq_true h
theorem both_fin {a b : Bool} : (bif a then b else false) = (a && b) := by cases a <;> rfl

def wi (s0 s1 t0 t1 : Int) : Bool := sv s0 s1 && sv t0 t1 && decide (t0 ≤ s0 ∧ s1 ≤ t1)
theorem jE_t {s0 s1 t0 t1 : Int} (h1 : sv s0 s1 = true) (h2 : sv t0 t1 = true) : jE s0 s1 t0 t1 = 0 ∧ jL s0 s1 t0 t1 = min s0 t0 ∧ jH s0 s1 t0 t1 = max s1 t1 := by simp [jE, jL, jH, h1, h2]
theorem jE_f {s0 s1 t0 t1 : Int} (h : (sv s0 s1 && sv t0 t1) = false) : jE s0 s1 t0 t1 = 1 := by simp [jE, h]

theorem prod_bd {n : Nat} {st : Int} (h1 : 1 ≤ n) (h2 : n ≤ 200) (h3 : 1 ≤ st) (h4 : st ≤ 1000) : 0 ≤ ((n : Int) - 1) * st ∧ ((n : Int) - 1) * st ≤ 199000 := by
  have a : 0 ≤ ((n : Int) - 1) * st := Int.mul_nonneg (by omega) (by omega)
  have b : ((n : Int) - 1) * st ≤ 199 * 1000 := Int.mul_le_mul (by omega) h4 (by omega) (by omega)
  omega

theorem tm_bd {t : Int} (h : tm t = true) : 0 ≤ t ∧ t ≤ 10000000 := of_decide_eq_true h

abbrev Q4 := Int × Int × Int × Int
def okS (x : Q4) : Prop := 0 ≤ x.1 ∧ x.1 ≤ x.2.1 ∧ x.2.1 ≤ 10000000 ∧ -100000 ≤ x.2.2.1 ∧ x.2.2.1 ≤ x.2.2.2 ∧ x.2.2.2 ≤ 100000
def midS (s st : Int) (lo hi : Nat → Int) (k : Nat) : Q4 := (s + ((k : Int) + 1) * st - st + 1, s + ((k : Int) + 1) * st - 1, min (lo k) (lo (k + 1)), max (hi k) (hi (k + 1)))
def rowS (s st : Int) (lo hi : Nat → Int) (k : Nat) : Q4 := (s + (k : Int) * st, s + (k : Int) * st, lo k, hi k)
def strs (s st : Int) (lo hi : Nat → Int) : Nat → List Q4
  | 0 => []
  | 1 => [rowS s st lo hi 0]
  | k + 2 => strs s st lo hi (k + 1) ++ (if 1 < st then [midS s st lo hi k] else []) ++ [rowS s st lo hi (k + 1)]
theorem strs_len (s st : Int) (lo hi : Nat → Int) : ∀ k, (strs s st lo hi k).length ≤ 2 * k
  | 0 => by simp [strs]
  | 1 => by simp [strs]
  | k + 2 => by
    have := strs_len s st lo hi (k + 1)
    simp only [strs, List.length_append, List.length_singleton]
    split <;> simp <;> omega
theorem strs_one {s st : Int} {lo hi : Nat → Int} (h : ¬ 1 < st) : ∀ k, strs s st lo hi (k + 1) = strs s st lo hi k ++ [rowS s st lo hi k]
  | 0 => by simp [strs]
  | k + 1 => by simp [strs, h]
theorem strs_two {s st : Int} {lo hi : Nat → Int} (h : 1 < st) (k : Nat) : strs s st lo hi (k + 2) = strs s st lo hi (k + 1) ++ [midS s st lo hi k] ++ [rowS s st lo hi (k + 1)] := by simp [strs, h]
/-- A table that is valid, in the words that the walks want. -/
structure Tv (s st : Int) (n : Nat) (lo hi : Nat → Int) : Prop where
  s0 : 0 ≤ s
  s1 : s ≤ 10000000
  st0 : 1 ≤ st
  st1 : st ≤ 1000
  n0 : 1 ≤ n
  n1 : n ≤ 200
  last : s + ((n : Int) - 1) * st ≤ 10000000
  hs : ∀ i, i < n → -100000 ≤ lo i ∧ lo i ≤ hi i ∧ hi i ≤ 100000
theorem Tv.at {s st : Int} {n : Nat} {lo hi : Nat → Int} (h : Tv s st n lo hi) {k : Nat} (hk : k < n) : 0 ≤ (k : Int) * st ∧ s + (k : Int) * st ≤ 10000000 ∧ (k : Int) * st ≤ 199000 := by
  have a : 0 ≤ (k : Int) * st := Int.mul_nonneg (by omega) (by have := h.st0; omega)
  have b : (k : Int) * st ≤ ((n : Int) - 1) * st := Int.mul_le_mul_of_nonneg_right (by omega) (by have := h.st0; omega)
  obtain ⟨c, d⟩ := prod_bd h.n0 h.n1 h.st0 h.st1
  have := h.last
  omega
theorem tval_tv {s st : Int} {n : Nat} {lo hi : Nat → Int} (h : tval s st n lo hi = true) : Tv s st n lo hi := by
  obtain ⟨h1, h2⟩ := Bool.and_eq_true_iff.1 h
  obtain ⟨g1, g2, g3, g4, g5, g6, g7⟩ := of_decide_eq_true h1
  exact ⟨g1, g2, g3, g4, g5, g6, g7, fun i hi' => of_decide_eq_true (of_decide_eq_true h2 i hi')⟩
theorem row_ok {s st : Int} {n : Nat} {lo hi : Nat → Int} (h : Tv s st n lo hi) {k : Nat} (hk : k < n) : okS (rowS s st lo hi k) := by
  obtain ⟨a, b, c⟩ := h.at hk
  obtain ⟨d, e, f⟩ := h.hs k hk
  have := h.s0
  exact ⟨by simp [rowS]; omega, Int.le_refl _, b, d, e, f⟩
theorem mid_ok {s st : Int} {n : Nat} {lo hi : Nat → Int} (h : Tv s st n lo hi) {k : Nat} (hk : k + 1 < n) (h1 : 1 < st) : okS (midS s st lo hi k) := by
  obtain ⟨a, b, c⟩ := h.at hk
  obtain ⟨a', b', c'⟩ := h.at (show k < n by omega)
  obtain ⟨d, e, f⟩ := h.hs k (by omega)
  obtain ⟨d', e', f'⟩ := h.hs (k + 1) hk
  have := h.s0
  have e1 : ((k : Int) + 1) * st = (k : Int) * st + st := by rw [Int.add_mul, Int.one_mul]
  rw [show ((k + 1 : Nat) : Int) = (k : Int) + 1 by omega] at b c
  refine ⟨?_, ?_, ?_, ?_, ?_, ?_⟩ <;> simp only [midS] <;> omega
def hitS (f u : Int) (x : Q4) : Bool := decide (f ≤ x.2.1) && decide (x.1 ≤ u)
def accS (f u : Int) (o : Option (Int × Int)) (x : Q4) : Option (Int × Int) := bif hitS f u x then some (match o with | none => (x.2.2.1, x.2.2.2) | some a => (min a.1 x.2.2.1, max a.2 x.2.2.2)) else o
def fo (f u : Int) (l : List Q4) : Option (Int × Int) := l.foldl (accS f u) none
def oL (o : Option (Int × Int)) : Int := match o with | none => 0 | some a => a.1
def oH (o : Option (Int × Int)) : Int := match o with | none => 0 | some a => a.2
theorem fo_snoc (f u : Int) (l : List Q4) (x : Q4) : fo f u (l ++ [x]) = accS f u (fo f u l) x := by simp [fo]
theorem accS_m1 {f u xa xc xl xh : Int} {o : Option (Int × Int)} (h : xc < f) : accS f u o (xa, xc, xl, xh) = o := by
  have e : hitS f u (xa, xc, xl, xh) = false := by simp only [hitS, Bool.and_eq_false_iff, decide_eq_false_iff_not]; omega
  unfold accS; rw [e]; rfl
theorem accS_m2 {f u xa xc xl xh : Int} {o : Option (Int × Int)} (h : u < xa) : accS f u o (xa, xc, xl, xh) = o := by
  have e : hitS f u (xa, xc, xl, xh) = false := by simp only [hitS, Bool.and_eq_false_iff, decide_eq_false_iff_not]; omega
  unfold accS; rw [e]; rfl
theorem accS_n {f u xa xc xl xh : Int} (h : ¬ xc < f) (h2 : ¬ u < xa) : accS f u none (xa, xc, xl, xh) = some (xl, xh) := by
  have e : hitS f u (xa, xc, xl, xh) = true := by simp only [hitS, Bool.and_eq_true, decide_eq_true_eq]; omega
  unfold accS; rw [e]; rfl
theorem accS_s {f u xa xc xl xh a1 a2 : Int} (h : ¬ xc < f) (h2 : ¬ u < xa) : accS f u (some (a1, a2)) (xa, xc, xl, xh) = some (min a1 xl, max a2 xh) := by
  have e : hitS f u (xa, xc, xl, xh) = true := by simp only [hitS, Bool.and_eq_true, decide_eq_true_eq]; omega
  unfold accS; rw [e]; rfl
def okO (o : Option (Int × Int)) : Prop := match o with | none => True | some a => -100000 ≤ a.1 ∧ a.1 ≤ a.2 ∧ a.2 ≤ 100000

def L1 (ws : List (Int × Int)) (i : Nat) : Int := match ws[i]? with | some p => p.1 | none => 0
def L2 (ws : List (Int × Int)) (i : Nat) : Int := match ws[i]? with | some p => p.2 | none => 0
def addW (need : Int) (ws : List (Int × Int)) (x : Q4) : List (Int × Int) :=
  if x.2.2.1 < need then ws else match ws.getLast? with
    | some l => if l.2 + 1 = x.1 then ws.dropLast ++ [(l.1, x.2.1)] else ws ++ [(x.1, x.2.1)]
    | none => ws ++ [(x.1, x.2.1)]
def win (need : Int) (l : List Q4) : List (Int × Int) := l.foldl (addW need) []
theorem win_snoc (need : Int) (l : List Q4) (x : Q4) : win need (l ++ [x]) = addW need (win need l) x := by simp [win]
theorem addW_skip {need : Int} {ws : List (Int × Int)} {xa xc xl xh : Int} (h : xl < need) : addW need ws (xa, xc, xl, xh) = ws := by simp [addW, h]
theorem addW_nil {need : Int} {xa xc xl xh : Int} (h : ¬ xl < need) : addW need [] (xa, xc, xl, xh) = [(xa, xc)] := by simp [addW, h]
theorem addW_ext {need : Int} {f : List (Int × Int)} {l1 l2 xa xc xl xh : Int} (h : ¬ xl < need) (h2 : l2 + 1 = xa) : addW need (f ++ [(l1, l2)]) (xa, xc, xl, xh) = f ++ [(l1, xc)] := by
  subst h2; simp [addW, h, List.getLast?_append]
theorem addW_new {need : Int} {f : List (Int × Int)} {l1 l2 xa xc xl xh : Int} (h : ¬ xl < need) (h2 : ¬ l2 + 1 = xa) : addW need (f ++ [(l1, l2)]) (xa, xc, xl, xh) = f ++ [(l1, l2)] ++ [(xa, xc)] := by
  simp [addW, h, h2, List.getLast?_append]
def okW (ws : List (Int × Int)) : Prop := ∀ q ∈ ws, 0 ≤ q.1 ∧ q.1 ≤ q.2 ∧ q.2 ≤ 10000000
theorem addW_ok {need : Int} {ws : List (Int × Int)} {x : Q4} (h : okW ws) (hx : okS x) : okW (addW need ws x) := by
  obtain ⟨xa, xc, xl, xh⟩ := x
  obtain ⟨h1, h2, h3, h4, h5, h6⟩ := hx
  simp only at h1 h2 h3
  by_cases k : xl < need
  · rw [addW_skip k]; exact h
  · rcases List.eq_nil_or_concat ws with rfl | ⟨f, ⟨l1, l2⟩, rfl⟩
    · rw [addW_nil k]; intro q hq; simp at hq; subst hq; exact ⟨h1, h2, h3⟩
    · rw [List.concat_eq_append] at h ⊢
      by_cases k2 : l2 + 1 = xa
      · rw [addW_ext k k2]
        intro q hq
        rcases List.mem_append.1 hq with hq | hq
        · exact h q (List.mem_append_left _ hq)
        · simp at hq; subst hq
          have := h (l1, l2) (by simp)
          simp only at this ⊢; omega
      · rw [addW_new k k2]
        intro q hq
        rcases List.mem_append.1 hq with hq | hq
        · exact h q hq
        · simp at hq; subst hq; exact ⟨h1, h2, h3⟩
theorem addW_len (need : Int) (ws : List (Int × Int)) (x : Q4) : (addW need ws x).length ≤ ws.length + 1 := by
  obtain ⟨xa, xc, xl, xh⟩ := x
  by_cases k : xl < need
  · rw [addW_skip k]; omega
  · rcases List.eq_nil_or_concat ws with rfl | ⟨f, ⟨l1, l2⟩, rfl⟩
    · rw [addW_nil k]; simp
    · rw [List.concat_eq_append]
      by_cases k2 : l2 + 1 = xa
      · rw [addW_ext k k2]; simp
      · rw [addW_new k k2]; simp
theorem lt_next (a : Int) : (a < a + 1) = True := by (simp; omega)
/-- The error of Meet | Join of two tables. -/
def bE (x y : Bool) (same : Bool) (none : Bool) : Int := bif x && y then (bif same then (bif none then 0 else 18) else 6) else 1

def gd (lo hi : Nat → Int) (b0 b1 : Int) (i : Nat) : Prop := aE (lo i) (hi i) b0 b1 = 0 ∧ hv (aL (lo i) (hi i) b0 b1) (aH (lo i) (hi i) b0 b1) = true

/-- The height at a minute. -/
def hL (s st : Int) (lo : Nat → Int) (x : Int) : Int := if (x - s) % st = 0 then lo ((x - s) / st).toNat else min (lo ((x - s) / st).toNat) (lo (((x - s) / st).toNat + 1))
def hH (s st : Int) (hi : Nat → Int) (x : Int) : Int := if (x - s) % st = 0 then hi ((x - s) / st).toNat else max (hi ((x - s) / st).toNat) (hi (((x - s) / st).toNat + 1))
theorem at_row {s st : Int} (h : 1 ≤ st) (lo : Nat → Int) (k : Nat) : hL s st lo (s + k * st) = lo k := by
  have e1 : (s + (k : Int) * st - s) = (k : Int) * st := by omega
  have e2 : (k : Int) * st % st = 0 := Int.mul_emod_left _ _
  have e3 : (k : Int) * st / st = k := Int.mul_ediv_cancel _ (by omega)
  rw [hL, e1, e2, e3, if_pos rfl, Int.toNat_natCast]
theorem at_rowH {s st : Int} (h : 1 ≤ st) (hi : Nat → Int) (k : Nat) : hH s st hi (s + k * st) = hi k := by
  have e1 : (s + (k : Int) * st - s) = (k : Int) * st := by omega
  have e2 : (k : Int) * st % st = 0 := Int.mul_emod_left _ _
  have e3 : (k : Int) * st / st = k := Int.mul_ediv_cancel _ (by omega)
  rw [hH, e1, e2, e3, if_pos rfl, Int.toNat_natCast]
theorem div_mid {st y : Int} {k : Nat} (h1 : (k : Int) * st < y) (h2 : y < ((k : Int) + 1) * st) (h : 1 ≤ st) : y / st = k ∧ ¬ y % st = 0 := by
  have e : y / st = k := by
    apply Int.le_antisymm
    · have : y / st < (k : Int) + 1 := Int.ediv_lt_of_lt_mul (by omega) h2
      omega
    · exact Int.le_ediv_of_mul_le (by omega) (by omega)
  refine ⟨e, fun h0 => ?_⟩
  have := Int.mul_ediv_add_emod y st
  rw [e, h0, Int.mul_comm] at this
  omega
theorem at_mid {s st x : Int} {k : Nat} (lo : Nat → Int) (h : 1 ≤ st) (h1 : s + (k : Int) * st < x) (h2 : x < s + ((k : Int) + 1) * st) : hL s st lo x = min (lo k) (lo (k + 1)) := by
  obtain ⟨e1, e2⟩ := div_mid (st := st) (y := x - s) (k := k) (by omega) (by omega) h
  rw [hL, if_neg e2, e1, Int.toNat_natCast]
theorem at_midH {s st x : Int} {k : Nat} (hi : Nat → Int) (h : 1 ≤ st) (h1 : s + (k : Int) * st < x) (h2 : x < s + ((k : Int) + 1) * st) : hH s st hi x = max (hi k) (hi (k + 1)) := by
  obtain ⟨e1, e2⟩ := div_mid (st := st) (y := x - s) (k := k) (by omega) (by omega) h
  rw [hH, if_neg e2, e1, Int.toNat_natCast]
/-- The stretches follow one another, from a time to a time. -/
inductive Run (f g : Int → Int) : Int → Int → List Q4 → Prop
  | nil (a : Int) : Run f g a a []
  | snoc {a b : Int} {l : List Q4} (x : Q4) (h : Run f g a b l) (h1 : x.1 = b) (h2 : x.1 ≤ x.2.1) (h3 : ∀ t, x.1 ≤ t → t ≤ x.2.1 → f t = x.2.2.1 ∧ g t = x.2.2.2) : Run f g a (x.2.1 + 1) (l ++ [x])
theorem Run.to {f g : Int → Int} {a b c : Int} {l : List Q4} (h : Run f g a b l) (e : b = c) : Run f g a c l := e ▸ h
theorem strs_run {s st : Int} (lo hi : Nat → Int) (h : 1 ≤ st) : ∀ k : Nat, Run (hL s st lo) (hH s st hi) s (s + (k : Int) * st + 1) (strs s st lo hi (k + 1))
  | 0 => by
    have e := Run.snoc (f := hL s st lo) (g := hH s st hi) (rowS s st lo hi 0) (Run.nil s) (by simp [rowS]) (Int.le_refl _) (fun t h1 h2 => by
      have : t = s + ((0 : Nat) : Int) * st := by simp only [rowS] at h1 h2; omega
      rw [this, at_row h, at_rowH h]; exact ⟨rfl, rfl⟩)
    exact e
  | k + 1 => by
    have ih := strs_run (s := s) lo hi h k
    have e1 : ((k : Int) + 1) * st = (k : Int) * st + st := by rw [Int.add_mul, Int.one_mul]
    have row : ∀ b l, Run (hL s st lo) (hH s st hi) s b l → b = s + ((k : Int) + 1) * st → Run (hL s st lo) (hH s st hi) s (s + ((k + 1 : Nat) : Int) * st + 1) (l ++ [rowS s st lo hi (k + 1)]) := fun b l hb eb => by
      refine Run.snoc (rowS s st lo hi (k + 1)) hb (by simp only [rowS]; rw [eb]; rfl) (Int.le_refl _) (fun t h1 h2 => ?_)
      have : t = s + ((k + 1 : Nat) : Int) * st := by simp only [rowS] at h1 h2; omega
      rw [this, at_row h, at_rowH h]; exact ⟨rfl, rfl⟩
    by_cases h1 : 1 < st
    · rw [strs_two h1]
      have m := Run.snoc (midS s st lo hi k) ih (by simp only [midS]; omega) (by simp only [midS]; omega) (fun t h3 h4 => by
        simp only [midS] at h3 h4 ⊢
        exact ⟨at_mid lo h (by omega) (by omega), at_midH hi h (by omega) (by omega)⟩)
      exact row _ _ m (by simp only [midS]; omega)
    · rw [strs_one h1]
      exact row _ _ ih (by have : st = 1 := by omega
                           subst this; omega)
theorem Run.le {f g : Int → Int} {a b : Int} {l : List Q4} (h : Run f g a b l) : a ≤ b := by
  induction h with
  | nil => exact Int.le_refl _
  | snoc x h h1 h2 h3 ih => omega
theorem Run.mem {f g : Int → Int} {a b : Int} {l : List Q4} (h : Run f g a b l) : ∀ x ∈ l, a ≤ x.1 ∧ x.1 ≤ x.2.1 ∧ x.2.1 < b ∧ (∀ t, x.1 ≤ t → t ≤ x.2.1 → f t = x.2.2.1 ∧ g t = x.2.2.2) := by
  induction h with
  | nil => intro x hx; cases hx
  | snoc y h h1 h2 h3 ih =>
    intro x hx
    rcases List.mem_append.1 hx with hx | hx
    · have := ih x hx; exact ⟨this.1, this.2.1, by omega, this.2.2.2⟩
    · simp at hx; subst hx
      exact ⟨by have := h.le; omega, h2, by omega, h3⟩
theorem Run.cover {f g : Int → Int} {a b : Int} {l : List Q4} (h : Run f g a b l) : ∀ t, a ≤ t → t < b → ∃ x ∈ l, x.1 ≤ t ∧ t ≤ x.2.1 := by
  induction h with
  | nil => intro t h1 h2; omega
  | snoc y h h1 h2 h3 ih =>
    intro t ht1 ht2
    by_cases k : t < y.1
    · obtain ⟨x, hx, hh⟩ := ih t ht1 (by omega)
      exact ⟨x, List.mem_append_left _ hx, hh⟩
    · exact ⟨y, by simp, by omega, by omega⟩
/-- What the fold has: the least and the greatest height from f to u. -/
def IsMin (h : Int → Int) (f u m : Int) : Prop := (∀ t, f ≤ t → t ≤ u → m ≤ h t) ∧ ∃ t, f ≤ t ∧ t ≤ u ∧ h t = m
def IsMax (h : Int → Int) (f u m : Int) : Prop := (∀ t, f ≤ t → t ≤ u → h t ≤ m) ∧ ∃ t, f ≤ t ∧ t ≤ u ∧ h t = m
theorem IsMin.uniq {h : Int → Int} {f u m m' : Int} (a : IsMin h f u m) (b : IsMin h f u m') : m = m' := by
  obtain ⟨a1, t, t1, t2, t3⟩ := a
  obtain ⟨b1, r, r1, r2, r3⟩ := b
  have := a1 r r1 r2
  have := b1 t t1 t2
  omega
theorem IsMax.uniq {h : Int → Int} {f u m m' : Int} (a : IsMax h f u m) (b : IsMax h f u m') : m = m' := by
  obtain ⟨a1, t, t1, t2, t3⟩ := a
  obtain ⟨b1, r, r1, r2, r3⟩ := b
  have := a1 r r1 r2
  have := b1 t t1 t2
  omega
theorem fo_run {hl hh : Int → Int} {a b f u : Int} {l : List Q4} (h : Run hl hh a b l) (h1 : a ≤ f) (hfu : f ≤ u) :
    (b ≤ f → fo f u l = none) ∧ (f < b → ∃ m M, fo f u l = some (m, M) ∧ IsMin hl f (min u (b - 1)) m ∧ IsMax hh f (min u (b - 1)) M) := by
  induction h with
  | nil => exact ⟨fun _ => rfl, fun h => by omega⟩
  | @snoc b l x h e1 e2 e3 ih =>
    obtain ⟨xa, xc, xl, xh⟩ := x
    simp only at e1 e2 e3 ⊢
    obtain ⟨i1, i2⟩ := ih
    rw [fo_snoc]
    refine ⟨fun hb => ?_, fun hb => ?_⟩
    · rw [i1 (by omega), accS_m1 (by omega)]
    · by_cases k : f < b
      · obtain ⟨m, M, em, hm, hM⟩ := i2 k
        rw [em]
        by_cases k2 : u < xa
        · rw [accS_m2 k2]
          refine ⟨m, M, rfl, ?_, ?_⟩
          · rw [show min u (xc + 1 - 1) = min u (b - 1) by omega]; exact hm
          · rw [show min u (xc + 1 - 1) = min u (b - 1) by omega]; exact hM
        · rw [accS_s (by omega) k2]
          refine ⟨_, _, rfl, ⟨fun t t1 t2 => ?_, ?_⟩, ⟨fun t t1 t2 => ?_, ?_⟩⟩
          · by_cases q : t < xa
            · have := hm.1 t t1 (by omega); omega
            · have := (e3 t (by omega) (by omega)).1; omega
          · obtain ⟨t, t1, t2, t3⟩ := hm.2
            by_cases q : m ≤ xl
            · exact ⟨t, t1, by omega, by omega⟩
            · exact ⟨xa, by omega, by omega, by have := (e3 xa (by omega) (by omega)).1; omega⟩
          · by_cases q : t < xa
            · have := hM.1 t t1 (by omega); omega
            · have := (e3 t (by omega) (by omega)).2; omega
          · obtain ⟨t, t1, t2, t3⟩ := hM.2
            by_cases q : xh ≤ M
            · exact ⟨t, t1, by omega, by omega⟩
            · exact ⟨xa, by omega, by omega, by have := (e3 xa (by omega) (by omega)).2; omega⟩
      · rw [i1 (by omega), accS_n (by omega) (by omega)]
        refine ⟨_, _, rfl, ⟨fun t t1 t2 => ?_, f, by omega, by omega, ?_⟩, ⟨fun t t1 t2 => ?_, f, by omega, by omega, ?_⟩⟩
        · have := (e3 t (by omega) (by omega)).1; omega
        · exact (e3 f (by omega) (by omega)).1
        · have := (e3 t (by omega) (by omega)).2; omega
        · exact (e3 f (by omega) (by omega)).2

structure Wn (need : Int) (h : Int → Int) (a b : Int) (ws : List (Int × Int)) : Prop where
  cov : ∀ t, (∃ w ∈ ws, w.1 ≤ t ∧ t ≤ w.2) ↔ (a ≤ t ∧ t < b ∧ need ≤ h t)
  ok : ∀ w ∈ ws, w.1 ≤ w.2
  gap : ws.Pairwise (fun x y => x.2 + 1 < y.1)
theorem wn_uniq : ∀ (ws ws' : List (Int × Int)), (∀ w ∈ ws, w.1 ≤ w.2) → (∀ w ∈ ws', w.1 ≤ w.2) → ws.Pairwise (fun x y => x.2 + 1 < y.1) → ws'.Pairwise (fun x y => x.2 + 1 < y.1) →
    (∀ t : Int, (∃ w ∈ ws, w.1 ≤ t ∧ t ≤ w.2) ↔ (∃ w ∈ ws', w.1 ≤ t ∧ t ≤ w.2)) → ws = ws'
  | [], [], _, _, _, _, _ => rfl
  | [], w :: ws', _, o, _, _, h => by
    obtain ⟨v, hv, _⟩ := (h w.1).2 ⟨w, by simp, Int.le_refl _, o w (by simp)⟩
    cases hv
  | w :: ws, [], o, _, _, _, h => by
    obtain ⟨v, hv, _⟩ := (h w.1).1 ⟨w, by simp, Int.le_refl _, o w (by simp)⟩
    cases hv
  | w :: ws, w' :: ws', o, o', g, g', h => by
    rw [List.pairwise_cons] at g g'
    have low : ∀ v ∈ w :: ws, w.1 ≤ v.1 := fun v hv => by
      rcases List.mem_cons.1 hv with e | e
      · subst e; exact Int.le_refl _
      · have := g.1 v e; have := o w (by simp); omega
    have low' : ∀ v ∈ w' :: ws', w'.1 ≤ v.1 := fun v hv => by
      rcases List.mem_cons.1 hv with e | e
      · subst e; exact Int.le_refl _
      · have := g'.1 v e; have := o' w' (by simp); omega
    have e1 : w.1 = w'.1 := by
      obtain ⟨v, hv, a1, a2⟩ := (h w.1).1 ⟨w, by simp, Int.le_refl _, o w (by simp)⟩
      obtain ⟨u, hu, b1, b2⟩ := (h w'.1).2 ⟨w', by simp, Int.le_refl _, o' w' (by simp)⟩
      have := low' v hv; have := low u hu; omega
    have e2 : w.2 = w'.2 := by
      rcases Int.lt_trichotomy w.2 w'.2 with k | k | k
      · obtain ⟨v, hv, a1, a2⟩ := (h (w.2 + 1)).2 ⟨w', by simp, by have := o w (by simp); omega, by omega⟩
        rcases List.mem_cons.1 hv with e | e
        · subst e; omega
        · have := g.1 v e; omega
      · exact k
      · obtain ⟨v, hv, a1, a2⟩ := (h (w'.2 + 1)).1 ⟨w, by simp, by have := o' w' (by simp); omega, by omega⟩
        rcases List.mem_cons.1 hv with e | e
        · subst e; omega
        · have := g'.1 v e; omega
    have e3 : ws = ws' := by
      refine wn_uniq ws ws' (fun v hv => o v (by simp [hv])) (fun v hv => o' v (by simp [hv])) g.2 g'.2 (fun t => ⟨fun ⟨v, hv, a1, a2⟩ => ?_, fun ⟨v, hv, a1, a2⟩ => ?_⟩)
      · obtain ⟨u, hu, b1, b2⟩ := (h t).1 ⟨v, by simp [hv], a1, a2⟩
        rcases List.mem_cons.1 hu with e | e
        · subst e; have := g.1 v hv; omega
        · exact ⟨u, e, b1, b2⟩
      · obtain ⟨u, hu, b1, b2⟩ := (h t).2 ⟨v, by simp [hv], a1, a2⟩
        rcases List.mem_cons.1 hu with e | e
        · subst e; have := g'.1 v hv; omega
        · exact ⟨u, e, b1, b2⟩
    have e0 : w = w' := Prod.ext e1 e2
    rw [e0, e3]
theorem Wn.uniq {need : Int} {h : Int → Int} {a b : Int} {ws ws' : List (Int × Int)} (x : Wn need h a b ws) (y : Wn need h a b ws') : ws = ws' :=
  wn_uniq ws ws' x.ok y.ok x.gap y.gap fun t => (x.cov t).trans (y.cov t).symm
theorem win_run {need : Int} {hl hh : Int → Int} {a b : Int} {l : List Q4} (h : Run hl hh a b l) : Wn need hl a b (win need l) ∧ ∀ w ∈ win need l, w.2 < b := by
  induction h with
  | nil => exact ⟨⟨fun t => ⟨fun ⟨w, hw, _⟩ => (by cases hw), fun ⟨h1, h2, _⟩ => (by omega)⟩, fun w hw => (by cases hw), List.Pairwise.nil⟩, fun w hw => (by cases hw)⟩
  | @snoc b l x h e1 e2 e3 ih =>
    obtain ⟨xa, xc, xl, xh⟩ := x
    simp only at e1 e2 e3 ⊢
    subst e1
    obtain ⟨⟨c, o, g⟩, e⟩ := ih
    have hab := h.le
    rw [win_snoc]
    by_cases k : xl < need
    · rw [addW_skip k]
      refine ⟨⟨fun t => (c t).trans ⟨fun ⟨h1, h2, h3⟩ => ⟨h1, by omega, h3⟩, fun ⟨h1, h2, h3⟩ => ⟨h1, ?_, h3⟩⟩, o, g⟩, fun w hw => by have := e w hw; omega⟩
      rcases Int.lt_or_le t xa with q | q
      · exact q
      · have := (e3 t q (by omega)).1; omega
    · have hin : ∀ t, xa ≤ t → t ≤ xc → need ≤ hl t := fun t h1 h2 => by have := (e3 t h1 h2).1; omega
      generalize win need l = ws at *
      rcases List.eq_nil_or_concat ws with rfl | ⟨f, ⟨l1, l2⟩, rfl⟩
      · rw [addW_nil k]
        refine ⟨⟨fun t => ⟨fun ⟨w, hw, h1, h2⟩ => ?_, fun ⟨h1, h2, h3⟩ => ⟨(xa, xc), by simp, ?_, ?_⟩⟩, fun w hw => by (simp at hw; subst hw; exact e2), List.pairwise_singleton _ _⟩, fun w hw => by (simp at hw; subst hw; simp only; omega)⟩
        · simp at hw; subst hw; simp only at h1 h2; exact ⟨by omega, by omega, hin t h1 h2⟩
        · simp only
          rcases Int.lt_or_le t xa with q | q
          · obtain ⟨w, hw, _⟩ := (c t).2 ⟨h1, q, h3⟩; cases hw
          · exact q
        · simp only; omega
      · rw [List.concat_eq_append] at *
        have el := e (l1, l2) (by simp)
        have ol := o (l1, l2) (by simp)
        simp only at el ol
        rw [List.pairwise_append] at g
        obtain ⟨g1, _, g3⟩ := g
        by_cases k2 : l2 + 1 = xa
        · rw [addW_ext k k2]
          refine ⟨⟨fun t => ⟨fun ⟨w, hw, h1, h2⟩ => ?_, fun ⟨h1, h2, h3⟩ => ?_⟩, fun w hw => ?_, ?_⟩, fun w hw => ?_⟩
          · rcases List.mem_append.1 hw with q | q
            · obtain ⟨a1, a2, a3⟩ := (c t).1 ⟨w, by simp [q], h1, h2⟩; exact ⟨a1, by omega, a3⟩
            · simp at q; subst q; simp only at h1 h2
              rcases Int.lt_or_le t xa with q | q
              · obtain ⟨a1, a2, a3⟩ := (c t).1 ⟨(l1, l2), by simp, h1, by simp only; omega⟩; exact ⟨a1, by omega, a3⟩
              · exact ⟨by omega, by omega, hin t q h2⟩
          · rcases Int.lt_or_le t xa with q | q
            · obtain ⟨w, hw, a1, a2⟩ := (c t).2 ⟨h1, q, h3⟩
              rcases List.mem_append.1 hw with r | r
              · exact ⟨w, by simp [r], a1, a2⟩
              · simp at r; subst r; exact ⟨(l1, xc), by simp, a1, by simp only at a2 ⊢; omega⟩
            · exact ⟨(l1, xc), by simp, by simp only; omega, by simp only; omega⟩
          · rcases List.mem_append.1 hw with r | r
            · exact o w (by simp [r])
            · simp at r; subst r; simp only; omega
          · rw [List.pairwise_append]
            exact ⟨g1, List.pairwise_singleton _ _, fun x hx y hy => by simp at hy; subst hy; exact g3 x hx (l1, l2) (by simp)⟩
          · rcases List.mem_append.1 hw with r | r
            · have := e w (by simp [r]); omega
            · simp at r; subst r; simp only; omega
        · rw [addW_new k k2]
          refine ⟨⟨fun t => ⟨fun ⟨w, hw, h1, h2⟩ => ?_, fun ⟨h1, h2, h3⟩ => ?_⟩, fun w hw => ?_, ?_⟩, fun w hw => ?_⟩
          · rcases List.mem_append.1 hw with q | q
            · obtain ⟨a1, a2, a3⟩ := (c t).1 ⟨w, q, h1, h2⟩; exact ⟨a1, by omega, a3⟩
            · simp at q; subst q; simp only at h1 h2; exact ⟨by omega, by omega, hin t h1 h2⟩
          · rcases Int.lt_or_le t xa with q | q
            · obtain ⟨w, hw, a1, a2⟩ := (c t).2 ⟨h1, q, h3⟩; exact ⟨w, List.mem_append_left _ hw, a1, a2⟩
            · exact ⟨(xa, xc), by simp, by simp only; omega, by simp only; omega⟩
          · rcases List.mem_append.1 hw with r | r
            · exact o w r
            · simp at r; subst r; exact e2
          · rw [List.pairwise_append]
            refine ⟨by rw [List.pairwise_append]; exact ⟨g1, List.pairwise_singleton _ _, g3⟩, List.pairwise_singleton _ _, fun x hx y hy => ?_⟩
            simp at hy; subst hy
            simp only
            rcases List.mem_append.1 hx with r | r
            · have := g3 x r (l1, l2) (by simp); simp only at this; omega
            · simp at r; subst r; simp only; omega
          · rcases List.mem_append.1 hw with r | r
            · have := e w r; omega
            · simp at r; subst r; simp only; omega
/-- The minutes of a table, each for itself. -/
def mins (h : Int → Int) (s : Int) : Nat → List Q4
  | 0 => []
  | k + 1 => mins h s k ++ [(s + k, s + k, h (s + k), h (s + k))]
theorem mins_run (h : Int → Int) (s : Int) : ∀ k : Nat, Run h h s (s + k) (mins h s k)
  | 0 => (Run.nil s).to (by omega)
  | k + 1 => (Run.snoc (s + (k : Int), s + (k : Int), h (s + k), h (s + k)) (mins_run h s k) rfl (Int.le_refl _) (fun t h1 h2 => by
      have : t = s + (k : Int) := by simp only at h1 h2; omega
      subst this; exact ⟨rfl, rfl⟩)).to (by simp only; omega)

def HE (s st : Int) (n : Nat) (lo hi : Nat → Int) (f u : Int) : Int :=
  if tval s st n lo hi = true ∧ tm f = true ∧ tm u = true ∧ f ≤ u then (if s ≤ f ∧ u ≤ s + ((n : Int) - 1) * st then 0 else 4) else 1
def HL (s st : Int) (n : Nat) (lo hi : Nat → Int) (f u : Int) : Int := if HE s st n lo hi f u = 0 then oL (fo f u (strs s st lo hi n)) else 0
def HH (s st : Int) (n : Nat) (lo hi : Nat → Int) (f u : Int) : Int := if HE s st n lo hi f u = 0 then oH (fo f u (strs s st lo hi n)) else 0
def nd (need : Int) : Bool := decide (-1000000000000 ≤ need ∧ need ≤ 1000000000000)
def WE (s st : Int) (n : Nat) (lo hi : Nat → Int) (need : Int) : Int := bif tval s st n lo hi && nd need then 0 else 1
def WS (s st : Int) (n : Nat) (lo hi : Nat → Int) (need : Int) : List (Int × Int) := bif tval s st n lo hi && nd need then win need (strs s st lo hi n) else []
def nxC (lo hi : Nat → Int) (f long : Int) (i : Nat) : Bool := decide (max (lo i) f ≤ hi i - long)
def nxO (n : Nat) (lo hi : Nat → Int) (f long : Int) : Option Nat := (List.range n).find? (nxC lo hi f long)
theorem nxO_hit {n k : Nat} {lo hi : Nat → Int} {f long : Int} (h1 : ∀ j, j < k → nxC lo hi f long j = false) (hk : k < n) (h2 : nxC lo hi f long k = true) : nxO n lo hi f long = some k := by
  rw [nxO, List.find?_range_eq_some]; exact ⟨h2, by simpa using hk, fun j hj => by simp [h1 j hj]⟩
theorem nxO_none {n : Nat} {lo hi : Nat → Int} {f long : Int} (h1 : ∀ j, j < n → nxC lo hi f long j = false) : nxO n lo hi f long = none := by
  rw [nxO, List.find?_range_eq_none]; intro j hj; simp [h1 j hj]
/-- The windows' ends are times. -/
theorem run_ok {hl hh : Int → Int} {a b : Int} {l : List Q4} (h : Run hl hh a b l) (ha : 0 ≤ a) (hb : b ≤ 10000001) (need : Int) : okW (win need l) := by
  induction h with
  | nil => intro q hq; cases hq
  | @snoc b l x h e1 e2 e3 ih =>
    have hab := h.le
    have i := ih (by omega)
    obtain ⟨xa, xc, xl, xh⟩ := x
    simp only at e1 e2 hb
    rw [win_snoc]
    by_cases k : xl < need
    · rw [addW_skip k]; exact i
    · generalize win need l = ws at *
      rcases List.eq_nil_or_concat ws with rfl | ⟨f, ⟨l1, l2⟩, rfl⟩
      · rw [addW_nil k]; intro q hq; simp at hq; subst hq; exact ⟨by simp only; omega, e2, by simp only; omega⟩
      · rw [List.concat_eq_append] at *
        by_cases k2 : l2 + 1 = xa
        · rw [addW_ext k k2]
          intro q hq
          rcases List.mem_append.1 hq with hq | hq
          · exact i q (List.mem_append_left _ hq)
          · simp at hq; subst hq
            have := i (l1, l2) (by simp)
            simp only at this ⊢; omega
        · rw [addW_new k k2]
          intro q hq
          rcases List.mem_append.1 hq with hq | hq
          · exact i q hq
          · simp at hq; subst hq; exact ⟨by simp only; omega, e2, by simp only; omega⟩
theorem strs_run' {s st : Int} {n : Nat} {lo hi : Nat → Int} (h : Tv s st n lo hi) : Run (hL s st lo) (hH s st hi) s (s + ((n : Int) - 1) * st + 1) (strs s st lo hi n) := by
  have h0 := h.n0
  obtain ⟨k, rfl⟩ : ∃ k, n = k + 1 := ⟨n - 1, by omega⟩
  have := strs_run (s := s) lo hi h.st0 k
  rw [show (((k + 1 : Nat) : Int) - 1) = (k : Int) by omega]
  exact this
theorem ws_ok (s st : Int) (n : Nat) (lo hi : Nat → Int) (need : Int) : okW (WS s st n lo hi need) ∧ (WS s st n lo hi need).length ≤ 400 := by
  unfold WS
  cases h : (tval s st n lo hi && nd need) with
  | false => exact ⟨fun q hq => (by cases hq), Nat.zero_le _⟩
  | true =>
    have hv := tval_tv (Bool.and_eq_true_iff.1 h).1
    have hr := strs_run' hv
    refine ⟨run_ok hr hv.s0 (by have := hv.last; omega) need, ?_⟩
    have hl : ∀ l : List Q4, (win need l).length ≤ l.length := by
      intro l
      have : ∀ l : List Q4, ∀ acc : List (Int × Int), (l.foldl (addW need) acc).length ≤ acc.length + l.length := by
        intro l
        induction l with
        | nil => intro acc; simp
        | cons x l ih => intro acc; have := ih (addW need acc x); have := addW_len need acc x; simp only [List.foldl_cons, List.length_cons]; omega
      simpa [win] using this l []
    have := hl (strs s st lo hi n)
    have := strs_len s st lo hi n
    have := hv.n1
    simp only [cond_true]; omega
theorem ws_at {ws : List (Int × Int)} (h : okW ws) {i : Nat} (hi : i < ws.length) : 0 ≤ L1 ws i ∧ L1 ws i ≤ L2 ws i ∧ L2 ws i ≤ 10000000 := by
  have e : ws[i]? = some ws[i] := List.getElem?_eq_getElem hi
  unfold L1 L2
  rw [e]
  exact h _ (List.getElem_mem hi)

theorem we_01 (s st : Int) (n : Nat) (lo hi : Nat → Int) (need : Int) : WE s st n lo hi need = 0 ∨ WE s st n lo hi need = 1 := by
  unfold WE; cases (tval s st n lo hi && nd need) <;> simp
def NE (s st : Int) (n : Nat) (lo hi : Nat → Int) (need f long : Int) : Int :=
  if WE s st n lo hi need = 0 ∧ tm f = true ∧ tm long = true then (match nxO (WS s st n lo hi need).length (L1 (WS s st n lo hi need)) (L2 (WS s st n lo hi need)) f long with | some _ => 0 | none => 4) else 1
def NV (s st : Int) (n : Nat) (lo hi : Nat → Int) (need f long : Int) : Int :=
  if WE s st n lo hi need = 0 ∧ tm f = true ∧ tm long = true then (match nxO (WS s st n lo hi need).length (L1 (WS s st n lo hi need)) (L2 (WS s st n lo hi need)) f long with | some k => max (L1 (WS s st n lo hi need) k) f | none => 0) else 0

def sameL (n n' : Nat) (lo hi lo' hi' : Nat → Int) : Bool := decide (n = n' ∧ ∀ i, i < n → lo i = lo' i ∧ hi i = hi' i)
def same (s st s' st' : Int) (n n' : Nat) (lo hi lo' hi' : Nat → Int) : Bool := decide (s = s' ∧ st = st') && sameL n n' lo hi lo' hi'

theorem strs_hs {s st : Int} {n : Nat} {lo hi : Nat → Int} (hv : Tv s st n lo hi) : ∀ k, k ≤ n → ∀ x ∈ strs s st lo hi k, -100000 ≤ x.2.2.1 ∧ x.2.2.1 ≤ x.2.2.2 ∧ x.2.2.2 ≤ 100000
  | 0, _, x, hx => by cases hx
  | 1, h, x, hx => by
    simp [strs] at hx; subst hx
    exact hv.hs 0 (by omega)
  | k + 2, h, x, hx => by
    have ih := strs_hs hv (k + 1) (by omega)
    have q1 := hv.hs k (by omega)
    have q2 := hv.hs (k + 1) (by omega)
    by_cases h1 : 1 < st
    · rw [strs_two h1] at hx
      simp only [List.mem_append, List.mem_singleton] at hx
      rcases hx with (hx | hx) | hx
      · exact ih x hx
      · subst hx; simp only [midS]; omega
      · subst hx; exact q2
    · rw [strs_one h1] at hx
      simp only [List.mem_append, List.mem_singleton] at hx
      rcases hx with hx | hx
      · exact ih x hx
      · subst hx; exact q2
theorem fo_okr {s st : Int} {n : Nat} {lo hi : Nat → Int} (hv : Tv s st n lo hi) (f u : Int) : okO (fo f u (strs s st lo hi n)) := by
  have hs : ∀ x ∈ strs s st lo hi n, -100000 ≤ x.2.2.1 ∧ x.2.2.1 ≤ x.2.2.2 ∧ x.2.2.2 ≤ 100000 := strs_hs hv n (Nat.le_refl _)
  have : ∀ l : List Q4, (∀ x ∈ l, -100000 ≤ x.2.2.1 ∧ x.2.2.1 ≤ x.2.2.2 ∧ x.2.2.2 ≤ 100000) → ∀ o, okO o → okO (l.foldl (accS f u) o) := by
    intro l
    induction l with
    | nil => intro _ o ho; exact ho
    | cons x l ih =>
      intro hl o ho
      refine ih (fun y hy => hl y (by simp [hy])) _ ?_
      obtain ⟨xa, xc, xl, xh⟩ := x
      have hx := hl (xa, xc, xl, xh) (by simp)
      simp only at hx
      by_cases k1 : xc < f
      · rw [accS_m1 k1]; exact ho
      by_cases k2 : u < xa
      · rw [accS_m2 k2]; exact ho
      cases o with
      | none => rw [accS_n k1 k2]; exact hx
      | some a =>
        obtain ⟨a1, a2⟩ := a
        rw [accS_s k1 k2]
        simp only [okO] at ho ⊢
        omega
  exact this _ hs none trivial
theorem he_ok {s st : Int} {n : Nat} {lo hi : Nat → Int} {f u : Int} (h : HE s st n lo hi f u = 0) : Tv s st n lo hi ∧ (0 ≤ f ∧ u ≤ 10000000 ∧ f ≤ u ∧ s ≤ f ∧ u ≤ s + ((n : Int) - 1) * st) ∧
    IsMin (hL s st lo) f u (HL s st n lo hi f u) ∧ IsMax (hH s st hi) f u (HH s st n lo hi f u) ∧ (-100000 ≤ HL s st n lo hi f u ∧ HL s st n lo hi f u ≤ HH s st n lo hi f u ∧ HH s st n lo hi f u ≤ 100000) := by
  have h' := h
  unfold HE at h'
  split at h'
  · rename_i g
    obtain ⟨g1, g2, g3, g4⟩ := g
    split at h'
    · rename_i k
      obtain ⟨f0, f1⟩ := tm_bd g2
      obtain ⟨u0, u1⟩ := tm_bd g3
      have hv := tval_tv g1
      have hr := strs_run' hv
      obtain ⟨m, M, e, hm, hM⟩ := (fo_run hr k.1 g4).2 (by omega)
      have e1 : HL s st n lo hi f u = m := by rw [HL, if_pos h, e]; rfl
      have e2 : HH s st n lo hi f u = M := by rw [HH, if_pos h, e]; rfl
      rw [show min u (s + ((n : Int) - 1) * st + 1 - 1) = u by omega] at hm hM
      rw [e1, e2]
      refine ⟨hv, by omega, hm, hM, ?_⟩
      have okr := fo_okr hv f u
      rw [e] at okr
      exact okr
    · omega
  · omega
theorem he_in {s st : Int} {n : Nat} {lo hi : Nat → Int} {f u : Int} (hv : tval s st n lo hi = true) (h : 0 ≤ f ∧ u ≤ 10000000 ∧ f ≤ u ∧ s ≤ f ∧ u ≤ s + ((n : Int) - 1) * st) : HE s st n lo hi f u = 0 := by
  rw [HE, if_pos ⟨hv, decide_eq_true (by omega), decide_eq_true (by omega), h.2.2.1⟩, if_pos ⟨h.2.2.2.1, h.2.2.2.2⟩]
theorem he_tv {s st : Int} {n : Nat} {lo hi : Nat → Int} {f u : Int} (h : HE s st n lo hi f u = 0) : tval s st n lo hi = true := by
  unfold HE at h
  split at h
  · rename_i g; exact g.1
  · omega
theorem min_join {h : Int → Int} {x y z a b : Int} (h1 : IsMin h x y a) (h2 : IsMin h y z b) (hxy : x ≤ y) (hyz : y ≤ z) : IsMin h x z (min a b) := by
  obtain ⟨p1, t, t1, t2, t3⟩ := h1
  obtain ⟨q1, r, r1, r2, r3⟩ := h2
  refine ⟨fun v v1 v2 => ?_, ?_⟩
  · by_cases k : v ≤ y
    · have := p1 v v1 k; omega
    · have := q1 v (by omega) v2; omega
  · by_cases k : a ≤ b
    · exact ⟨t, t1, by omega, by omega⟩
    · exact ⟨r, by omega, r2, by omega⟩
theorem max_join {h : Int → Int} {x y z a b : Int} (h1 : IsMax h x y a) (h2 : IsMax h y z b) (hxy : x ≤ y) (hyz : y ≤ z) : IsMax h x z (max a b) := by
  obtain ⟨p1, t, t1, t2, t3⟩ := h1
  obtain ⟨q1, r, r1, r2, r3⟩ := h2
  refine ⟨fun v v1 v2 => ?_, ?_⟩
  · by_cases k : v ≤ y
    · have := p1 v v1 k; omega
    · have := q1 v (by omega) v2; omega
  · by_cases k : b ≤ a
    · exact ⟨t, t1, by omega, by omega⟩
    · exact ⟨r, by omega, r2, by omega⟩
theorem jj {a b c d : Int} (h1 : -100000 ≤ a ∧ a ≤ b ∧ b ≤ 100000) (h2 : -100000 ≤ c ∧ c ≤ d ∧ d ≤ 100000) : jE a b c d = 0 ∧ jL a b c d = min a c ∧ jH a b c d = max b d := jE_t (sv_t (by omega)) (sv_t (by omega))
theorem wi_t {a b c d : Int} (h1 : -100000 ≤ a ∧ a ≤ b ∧ b ≤ 100000) (h2 : -100000 ≤ c ∧ c ≤ d ∧ d ≤ 100000) (h : c ≤ a ∧ b ≤ d) : wi a b c d = true := by
  rw [wi, sv_t (by omega), sv_t (by omega), decide_eq_true h]; rfl
theorem parts {s st : Int} {n : Nat} {lo hi : Nat → Int} {x y z : Int} (h1 : HE s st n lo hi x y = 0) (h2 : HE s st n lo hi y z = 0) :
    HE s st n lo hi x z = 0 ∧ jE (HL s st n lo hi x y) (HH s st n lo hi x y) (HL s st n lo hi y z) (HH s st n lo hi y z) = 0 ∧ jE (HL s st n lo hi x y) (HH s st n lo hi x y) (HL s st n lo hi x z) (HH s st n lo hi x z) = 0 ∧ jE (HL s st n lo hi y z) (HH s st n lo hi y z) (HL s st n lo hi x z) (HH s st n lo hi x z) = 0 ∧
    Hid (jL (HL s st n lo hi x y) (HH s st n lo hi x y) (HL s st n lo hi y z) (HH s st n lo hi y z) = HL s st n lo hi x z) ∧ Hid (jH (HL s st n lo hi x y) (HH s st n lo hi x y) (HL s st n lo hi y z) (HH s st n lo hi y z) = HH s st n lo hi x z) ∧
    wi (HL s st n lo hi x y) (HH s st n lo hi x y) (HL s st n lo hi x z) (HH s st n lo hi x z) = true ∧ wi (HL s st n lo hi y z) (HH s st n lo hi y z) (HL s st n lo hi x z) (HH s st n lo hi x z) = true := by
  obtain ⟨hv, b1, m1, M1, r1⟩ := he_ok h1
  obtain ⟨_, b2, m2, M2, r2⟩ := he_ok h2
  have h3 : HE s st n lo hi x z = 0 := he_in (he_tv h1) (by omega)
  obtain ⟨_, b3, m3, M3, r3⟩ := he_ok h3
  have e1 := m3.uniq (min_join m1 m2 (by omega) (by omega))
  have e2 := M3.uniq (max_join M1 M2 (by omega) (by omega))
  obtain ⟨j1, j2, j3⟩ := jj r1 r2
  exact ⟨h3, j1, (jj r1 r3).1, (jj r2 r3).1, Lib.hid (by omega), Lib.hid (by omega), wi_t r1 r3 (by omega), wi_t r2 r3 (by omega)⟩

theorem ws_wn {s st : Int} {n : Nat} {lo hi : Nat → Int} {need : Int} (hv : tval s st n lo hi = true) (hn : nd need = true) : Wn need (hL s st lo) s (s + ((n : Int) - 1) * st + 1) (WS s st n lo hi need) := by
  rw [WS, hv, hn]; exact (win_run (strs_run' (tval_tv hv))).1
theorem we_0 {s st : Int} {n : Nat} {lo hi : Nat → Int} {need : Int} (hv : tval s st n lo hi = true) (hn : nd need = true) : WE s st n lo hi need = 0 := by rw [WE, hv, hn]; rfl
theorem ws_get {ws : List (Int × Int)} {w : Int × Int} (h : w ∈ ws) : ∃ i, i < ws.length ∧ L1 ws i = w.1 ∧ L2 ws i = w.2 := by
  obtain ⟨i, hi, e⟩ := List.getElem_of_mem h
  refine ⟨i, hi, ?_, ?_⟩ <;> simp [L1, L2, List.getElem?_eq_getElem hi, e]
theorem ws_mem {ws : List (Int × Int)} {i : Nat} (hi : i < ws.length) : (L1 ws i, L2 ws i) ∈ ws := by
  have : (L1 ws i, L2 ws i) = ws[i] := by simp [L1, L2, List.getElem?_eq_getElem hi]
  rw [this]; exact List.getElem_mem hi
theorem ws_lt {ws : List (Int × Int)} (h : ws.Pairwise (fun x y => x.2 + 1 < y.1)) {i j : Nat} (hij : i < j) (hj : j < ws.length) : L2 ws i + 1 < L1 ws j := by
  have := List.pairwise_iff_getElem.1 h i j (by omega) hj hij
  have hi : i < ws.length := by omega
  simp only [L1, L2, List.getElem?_eq_getElem hi, List.getElem?_eq_getElem hj]
  exact this
/-- A stretch of minutes that are all high enough lies in one window. -/
theorem wn_one {need : Int} {h : Int → Int} {a b : Int} {ws : List (Int × Int)} (W : Wn need h a b ws) {x y : Int} (hxy : x ≤ y) (ha : a ≤ x) (hb : y < b) (hh : ∀ t, x ≤ t → t ≤ y → need ≤ h t) : ∃ j, j < ws.length ∧ L1 ws j ≤ x ∧ y ≤ L2 ws j := by
  obtain ⟨w, hw, w1, w2⟩ := (W.cov x).2 ⟨ha, by omega, hh x (Int.le_refl _) hxy⟩
  obtain ⟨j, hj, e1, e2⟩ := ws_get hw
  refine ⟨j, hj, by omega, ?_⟩
  rcases Int.lt_or_le (L2 ws j) y with k | k
  · exfalso
    obtain ⟨v, hv, v1, v2⟩ := (W.cov (L2 ws j + 1)).2 ⟨by omega, by omega, hh _ (by omega) (by omega)⟩
    obtain ⟨i, hi, f1, f2⟩ := ws_get hv
    rcases Nat.lt_trichotomy i j with q | q | q
    · have := ws_lt W.gap q hj; omega
    · subst q; omega
    · have := ws_lt W.gap q hi; omega
  · exact k
theorem next_some {s st : Int} {n : Nat} {lo hi : Nat → Int} {need f long : Int} (h : NE s st n lo hi need f long = 0) : WE s st n lo hi need = 0 ∧ tm f = true ∧ tm long = true ∧ ∃ k, k < (WS s st n lo hi need).length ∧ nxO (WS s st n lo hi need).length (L1 (WS s st n lo hi need)) (L2 (WS s st n lo hi need)) f long = some k ∧ NV s st n lo hi need f long = max (L1 (WS s st n lo hi need) k) f ∧ max (L1 (WS s st n lo hi need) k) f ≤ L2 (WS s st n lo hi need) k - long := by
  unfold NE at h
  split at h
  · rename_i g
    refine ⟨g.1, g.2.1, g.2.2, ?_⟩
    cases hk : nxO (WS s st n lo hi need).length (L1 (WS s st n lo hi need)) (L2 (WS s st n lo hi need)) f long with
    | none => rw [hk] at h; cases h
    | some k =>
      have hk' := hk
      rw [nxO, List.find?_range_eq_some] at hk'
      refine ⟨k, by simpa using hk'.2.1, rfl, ?_, of_decide_eq_true hk'.1⟩
      rw [NV, if_pos g, hk]
  · omega
theorem ne_04 {s st : Int} {n : Nat} {lo hi : Nat → Int} {need f long : Int} (hv : tval s st n lo hi = true) (hn : nd need = true) (hf : tm f = true) (hl : tm long = true) : NE s st n lo hi need f long = 0 ∨ NE s st n lo hi need f long = 4 := by
  rw [NE, if_pos ⟨we_0 hv hn, hf, hl⟩]
  cases nxO (WS s st n lo hi need).length (L1 (WS s st n lo hi need)) (L2 (WS s st n lo hi need)) f long <;> simp
theorem next_yes {s st : Int} {n : Nat} {lo hi : Nat → Int} {need f long : Int} (hv : tval s st n lo hi = true) (hn : nd need = true) (h : NE s st n lo hi need f long = 0) :
    HE s st n lo hi (NV s st n lo hi need f long) (NV s st n lo hi need f long + long) = 0 ∧ need ≤ HL s st n lo hi (NV s st n lo hi need f long) (NV s st n lo hi need f long + long) ∧ f ≤ NV s st n lo hi need f long ∧ NV s st n lo hi need f long + long ≤ 10000000 := by
  obtain ⟨_, hf, hl, k, hk, _, e, hle⟩ := next_some h
  obtain ⟨f0, f1⟩ := tm_bd hf
  obtain ⟨g0, g1⟩ := tm_bd hl
  have W := ws_wn hv hn
  have ok := ws_at (ws_ok s st n lo hi need).1 hk
  have mem := ws_mem hk
  have c1 := (W.cov (L1 (WS s st n lo hi need) k)).1 ⟨_, mem, Int.le_refl _, ok.2.1⟩
  have c2 := (W.cov (L2 (WS s st n lo hi need) k)).1 ⟨_, mem, ok.2.1, Int.le_refl _⟩
  have he : HE s st n lo hi (NV s st n lo hi need f long) (NV s st n lo hi need f long + long) = 0 := he_in hv (by omega)
  obtain ⟨_, _, hm, _, _⟩ := he_ok he
  obtain ⟨t, t1, t2, t3⟩ := hm.2
  have c3 := (W.cov t).1 ⟨_, mem, by simp only; omega, by simp only; omega⟩
  exact ⟨he, by omega, by omega, by omega⟩
theorem next_no {s st : Int} {n : Nat} {lo hi : Nat → Int} {need f long other : Int} (hv : tval s st n lo hi = true) (hn : nd need = true) (hf : tm f = true) (hl : tm long = true) (h1 : f ≤ other) (h2 : HE s st n lo hi other (other + long) = 0) (h3 : need ≤ HL s st n lo hi other (other + long)) :
    NE s st n lo hi need f long = 0 ∧ NV s st n lo hi need f long ≤ other := by
  obtain ⟨g0, g1⟩ := tm_bd hl
  have W := ws_wn hv hn
  obtain ⟨_, bd, hm, _, _⟩ := he_ok h2
  obtain ⟨j, hj, j1, j2⟩ := wn_one W bd.2.2.1 bd.2.2.2.1 (by omega) (fun t t1 t2 => by have := hm.1 t t1 t2; omega)
  have hx : nxC (L1 (WS s st n lo hi need)) (L2 (WS s st n lo hi need)) f long j = true := decide_eq_true (by omega)
  cases hk : nxO (WS s st n lo hi need).length (L1 (WS s st n lo hi need)) (L2 (WS s st n lo hi need)) f long with
  | none =>
    rw [nxO, List.find?_range_eq_none] at hk
    have := hk j hj
    rw [hx] at this; cases this
  | some k =>
    have hk' := hk
    rw [nxO, List.find?_range_eq_some] at hk'
    have hkj : k ≤ j := by
      rcases Nat.lt_or_ge j k with q | q
      · have := hk'.2.2 j q; rw [hx] at this; cases this
      · exact q
    have e0 : NE s st n lo hi need f long = 0 := by rw [NE, if_pos ⟨we_0 hv hn, hf, hl⟩, hk]
    have e1 : NV s st n lo hi need f long = max (L1 (WS s st n lo hi need) k) f := by rw [NV, if_pos ⟨we_0 hv hn, hf, hl⟩, hk]
    refine ⟨e0, ?_⟩
    rw [e1]
    rcases Nat.lt_or_ge k j with q | q
    · have := ws_lt W.gap q hj
      have := ws_at (ws_ok s st n lo hi need).1 (show k < (WS s st n lo hi need).length by omega)
      omega
    · obtain rfl : k = j := by omega
      omega

def sl (lo hi : Nat → Int) (b0 b1 : Int) (i : Nat) : Int := aL (lo i) (hi i) b0 b1
def sh (lo hi : Nat → Int) (b0 b1 : Int) (i : Nat) : Int := aH (lo i) (hi i) b0 b1
theorem gd_eq {lo hi : Nat → Int} {b0 b1 : Int} {i : Nat} (h : gd lo hi b0 b1 i) : sl lo hi b0 b1 i = lo i + b0 ∧ sh lo hi b0 b1 i = hi i + b1 ∧ hv (sl lo hi b0 b1 i) (sh lo hi b0 b1 i) = true := by
  obtain ⟨h1, h2⟩ := h
  refine ⟨?_, ?_, h2⟩
  all_goals
    unfold aE at h1
    cases k : (sv (lo i) (hi i) && sv b0 b1) with
    | false => rw [k] at h1; cases h1
    | true => cases k2 : sv (lo i + b0) (hi i + b1) with
      | false => rw [k, k2] at h1; cases h1
      | true => simp [sl, sh, aL, aH, k, k2]
theorem tval_shift {s st : Int} {n : Nat} {lo hi : Nat → Int} {b0 b1 : Int} (h1 : tval s st n lo hi = true) (h : ∀ i, i < n → gd lo hi b0 b1 i) : tval s st n (sl lo hi b0 b1) (sh lo hi b0 b1) = true := by
  unfold tval at h1 ⊢
  rw [Bool.and_eq_true] at h1 ⊢
  exact ⟨h1.1, decide_eq_true fun i hi' => (gd_eq (h i hi')).2.2⟩
theorem he_shift {s st : Int} {n : Nat} {lo hi : Nat → Int} {b0 b1 : Int} (h1 : tval s st n lo hi = true) (h : ∀ i, i < n → gd lo hi b0 b1 i) (f u : Int) : HE s st n (sl lo hi b0 b1) (sh lo hi b0 b1) f u = HE s st n lo hi f u := by
  unfold HE; rw [tval_shift h1 h, h1]
/-- At a minute of the table only its own rows are asked. -/
theorem idx {s st x : Int} {n : Nat} (h : 1 ≤ st) (hn : 1 ≤ n) (h1 : s ≤ x) (h2 : x ≤ s + ((n : Int) - 1) * st) : ((x - s) / st).toNat < n ∧ (¬ (x - s) % st = 0 → ((x - s) / st).toNat + 1 < n) := by
  have e := Int.mul_ediv_add_emod (x - s) st
  have m0 := Int.emod_nonneg (x - s) (show st ≠ 0 by omega)
  have d0 : 0 ≤ (x - s) / st := Int.ediv_nonneg (by omega) (by omega)
  have le : (x - s) / st ≤ (n : Int) - 1 := by
    apply Int.le_of_lt_add_one
    apply Int.ediv_lt_of_lt_mul (by omega)
    rw [Int.add_mul, Int.one_mul]; omega
  refine ⟨by omega, fun hne => ?_⟩
  rcases Int.lt_or_le ((x - s) / st) ((n : Int) - 1) with k | k
  · omega
  · exfalso
    have e2 : (x - s) / st = (n : Int) - 1 := by omega
    rw [e2, Int.mul_comm] at e
    omega
theorem hL_shift {s st : Int} {n : Nat} {lo hi : Nat → Int} {b0 b1 : Int} (hv : Tv s st n lo hi) (h : ∀ i, i < n → gd lo hi b0 b1 i) {x : Int} (h1 : s ≤ x) (h2 : x ≤ s + ((n : Int) - 1) * st) : hL s st (sl lo hi b0 b1) x = hL s st lo x + b0 := by
  obtain ⟨k1, k2⟩ := idx hv.st0 hv.n0 h1 h2
  unfold hL
  split
  · exact (gd_eq (h _ k1)).1
  · rename_i hne
    rw [(gd_eq (h _ k1)).1, (gd_eq (h _ (k2 hne))).1]; omega
theorem hH_shift {s st : Int} {n : Nat} {lo hi : Nat → Int} {b0 b1 : Int} (hv : Tv s st n lo hi) (h : ∀ i, i < n → gd lo hi b0 b1 i) {x : Int} (h1 : s ≤ x) (h2 : x ≤ s + ((n : Int) - 1) * st) : hH s st (sh lo hi b0 b1) x = hH s st hi x + b1 := by
  obtain ⟨k1, k2⟩ := idx hv.st0 hv.n0 h1 h2
  unfold hH
  split
  · exact (gd_eq (h _ k1)).2.1
  · rename_i hne
    rw [(gd_eq (h _ k1)).2.1, (gd_eq (h _ (k2 hne))).2.1]; omega
theorem hl_shift {s st : Int} {n : Nat} {lo hi : Nat → Int} {b0 b1 f u : Int} (h1 : tval s st n lo hi = true) (h : ∀ i, i < n → gd lo hi b0 b1 i) (h2 : HE s st n lo hi f u = 0) : HL s st n (sl lo hi b0 b1) (sh lo hi b0 b1) f u = HL s st n lo hi f u + b0 ∧ HH s st n (sl lo hi b0 b1) (sh lo hi b0 b1) f u = HH s st n lo hi f u + b1 ∧ -100000 ≤ HL s st n (sl lo hi b0 b1) (sh lo hi b0 b1) f u ∧ HL s st n (sl lo hi b0 b1) (sh lo hi b0 b1) f u ≤ HH s st n (sl lo hi b0 b1) (sh lo hi b0 b1) f u ∧ HH s st n (sl lo hi b0 b1) (sh lo hi b0 b1) f u ≤ 100000 := by
  obtain ⟨hv, bd, m1, M1, r1⟩ := he_ok h2
  obtain ⟨_, _, m2, M2, r2⟩ := he_ok ((he_shift h1 h f u).trans h2)
  have e1 : IsMin (hL s st (sl lo hi b0 b1)) f u (HL s st n lo hi f u + b0) := by
    obtain ⟨a, t, t1, t2, t3⟩ := m1
    refine ⟨fun y y1 y2 => ?_, t, t1, t2, ?_⟩
    · rw [hL_shift hv h (by omega) (by omega)]; have := a y y1 y2; omega
    · rw [hL_shift hv h (by omega) (by omega), t3]
  have e2 : IsMax (hH s st (sh lo hi b0 b1)) f u (HH s st n lo hi f u + b1) := by
    obtain ⟨a, t, t1, t2, t3⟩ := M1
    refine ⟨fun y y1 y2 => ?_, t, t1, t2, ?_⟩
    · rw [hH_shift hv h (by omega) (by omega)]; have := a y y1 y2; omega
    · rw [hH_shift hv h (by omega) (by omega), t3]
  exact ⟨m2.uniq e1, M2.uniq e2, r2⟩
theorem ws_shift {s st : Int} {n : Nat} {lo hi : Nat → Int} {b0 b1 need : Int} (h1 : tval s st n lo hi = true) (h : ∀ i, i < n → gd lo hi b0 b1 i) (n1 : nd need = true) (n2 : nd (need - b0) = true) : WS s st n lo hi (need - b0) = WS s st n (sl lo hi b0 b1) (sh lo hi b0 b1) need := by
  have hv := tval_tv h1
  refine (ws_wn h1 n2).uniq ⟨fun t => ((ws_wn (tval_shift h1 h) n1).cov t).trans ⟨fun ⟨a1, a2, a3⟩ => ⟨a1, a2, ?_⟩, fun ⟨a1, a2, a3⟩ => ⟨a1, a2, ?_⟩⟩, (ws_wn (tval_shift h1 h) n1).ok, (ws_wn (tval_shift h1 h) n1).gap⟩
  · rw [hL_shift hv h a1 (by omega)] at a3; omega
  · rw [hL_shift hv h a1 (by omega)]; omega
theorem add_shift {a b c d b0 b1 : Int} (hs : sv b0 b1 = true) (r1 : -100000 ≤ a ∧ a ≤ b ∧ b ≤ 100000) (e1 : c = a + b0) (e2 : d = b + b1) (r2 : -100000 ≤ c ∧ c ≤ d ∧ d ≤ 100000) : aE a b b0 b1 = 0 ∧ Hid (aL a b b0 b1 = c) ∧ Hid (aH a b b0 b1 = d) := by
  have k1 : sv a b = true := sv_t (by omega)
  have k2 : sv (a + b0) (b + b1) = true := sv_t (by omega)
  refine ⟨by simp [aE, k1, hs, k2], Lib.hid (by simp [aL, k1, hs, k2, e1]), Lib.hid (by simp [aH, k1, hs, k2, e2])⟩
theorem sameL_refl (ws : List (Int × Int)) : sameL ws.length ws.length (L1 ws) (L2 ws) (L1 ws) (L2 ws) = true := decide_eq_true ⟨rfl, fun _ _ => ⟨rfl, rfl⟩⟩

def jl (lo hi lo' hi' : Nat → Int) (i : Nat) : Int := jL (lo i) (hi i) (lo' i) (hi' i)
def jh (lo hi lo' hi' : Nat → Int) (i : Nat) : Int := jH (lo i) (hi i) (lo' i) (hi' i)
def ml (lo hi lo' hi' : Nat → Int) (i : Nat) : Int := mL (lo i) (hi i) (lo' i) (hi' i)
def mh (lo hi lo' hi' : Nat → Int) (i : Nat) : Int := mH (lo i) (hi i) (lo' i) (hi' i)
def mgo (n : Nat) (lo hi lo' hi' : Nat → Int) : Prop := ∀ i, i < n → mE (lo i) (hi i) (lo' i) (hi' i) = 0

theorem jall {s st : Int} {n : Nat} {lo hi lo' hi' : Nat → Int} (h1 : Tv s st n lo hi) (h2 : Tv s st n lo' hi') {i : Nat} (hi_ : i < n) : jE (lo i) (hi i) (lo' i) (hi' i) = 0 ∧ jl lo hi lo' hi' i = min (lo i) (lo' i) ∧ jh lo hi lo' hi' i = max (hi i) (hi' i) := jj (h1.hs i hi_) (h2.hs i hi_)
theorem mm {a b c d : Int} (h1 : -100000 ≤ a ∧ a ≤ b ∧ b ≤ 100000) (h2 : -100000 ≤ c ∧ c ≤ d ∧ d ≤ 100000) : (mE a b c d = 0 ↔ max a c ≤ min b d) ∧ (max a c ≤ min b d → mL a b c d = max a c ∧ mH a b c d = min b d) := by
  have k1 : sv a b = true := sv_t (by omega)
  have k2 : sv c d = true := sv_t (by omega)
  by_cases k : min b d < max a c
  · refine ⟨⟨fun h => ?_, fun h => by omega⟩, fun h => by omega⟩
    simp [mE, k1, k2, k] at h
  · refine ⟨⟨fun _ => by omega, fun h => by simp [mE, k1, k2, k]⟩, fun h => by simp [mL, mH, k1, k2, k]⟩
theorem mgo_symm {s st : Int} {n : Nat} {lo hi lo' hi' : Nat → Int} (h1 : Tv s st n lo hi) (h2 : Tv s st n lo' hi') (h : mgo n lo hi lo' hi') : mgo n lo' hi' lo hi := fun i hi_ => by
  have := (mm (h1.hs i hi_) (h2.hs i hi_)).1.1 (h i hi_)
  exact (mm (h2.hs i hi_) (h1.hs i hi_)).1.2 (by omega)
theorem mgo_at {s st : Int} {n : Nat} {lo hi lo' hi' : Nat → Int} (h1 : Tv s st n lo hi) (h2 : Tv s st n lo' hi') (h : mgo n lo hi lo' hi') {i : Nat} (hi_ : i < n) : ml lo hi lo' hi' i = max (lo i) (lo' i) ∧ mh lo hi lo' hi' i = min (hi i) (hi' i) ∧ max (lo i) (lo' i) ≤ min (hi i) (hi' i) := by
  have k := (mm (h1.hs i hi_) (h2.hs i hi_)).1.1 (h i hi_)
  have := (mm (h1.hs i hi_) (h2.hs i hi_)).2 k
  exact ⟨this.1, this.2, k⟩
theorem tval_of {s st : Int} {n : Nat} {lo hi lo2 hi2 : Nat → Int} (h1 : tval s st n lo hi = true) (h : ∀ i, i < n → -100000 ≤ lo2 i ∧ lo2 i ≤ hi2 i ∧ hi2 i ≤ 100000) : tval s st n lo2 hi2 = true := by
  unfold tval at h1 ⊢
  rw [Bool.and_eq_true] at h1 ⊢
  exact ⟨h1.1, decide_eq_true fun i hi' => decide_eq_true (h i hi')⟩
theorem tval_j {s st : Int} {n : Nat} {lo hi lo' hi' : Nat → Int} (h1 : tval s st n lo hi = true) (h2 : tval s st n lo' hi' = true) : tval s st n (jl lo hi lo' hi') (jh lo hi lo' hi') = true := tval_of h1 fun i hi_ => by
  obtain ⟨_, e1, e2⟩ := jall (tval_tv h1) (tval_tv h2) hi_
  have := (tval_tv h1).hs i hi_
  have := (tval_tv h2).hs i hi_
  omega
theorem tval_m {s st : Int} {n : Nat} {lo hi lo' hi' : Nat → Int} (h1 : tval s st n lo hi = true) (h2 : tval s st n lo' hi' = true) (h : mgo n lo hi lo' hi') : tval s st n (ml lo hi lo' hi') (mh lo hi lo' hi') = true := tval_of h1 fun i hi_ => by
  obtain ⟨e1, e2, e3⟩ := mgo_at (tval_tv h1) (tval_tv h2) h hi_
  have := (tval_tv h1).hs i hi_
  have := (tval_tv h2).hs i hi_
  omega
theorem he_same {s st : Int} {n : Nat} {lo hi lo2 hi2 : Nat → Int} (h1 : tval s st n lo hi = true) (h2 : tval s st n lo2 hi2 = true) (f u : Int) : HE s st n lo2 hi2 f u = HE s st n lo hi f u := by
  unfold HE; rw [h1, h2]
theorem hL_two {s st : Int} {n : Nat} {lo lo' lo2 : Nat → Int} (h0 : 1 ≤ st) (hn : 1 ≤ n) {x : Int} (h1 : s ≤ x) (h2 : x ≤ s + ((n : Int) - 1) * st) :
    ((∀ i, i < n → lo2 i = min (lo i) (lo' i)) → hL s st lo2 x = min (hL s st lo x) (hL s st lo' x)) ∧ ((∀ i, i < n → lo2 i = max (lo i) (lo' i)) → hL s st lo x ≤ hL s st lo2 x ∧ hL s st lo' x ≤ hL s st lo2 x) := by
  obtain ⟨k1, k2⟩ := idx h0 hn h1 h2
  unfold hL
  split
  · exact ⟨fun h => h _ k1, fun h => by rw [h _ k1]; omega⟩
  · rename_i hne
    exact ⟨fun h => by rw [h _ k1, h _ (k2 hne)]; omega, fun h => by rw [h _ k1, h _ (k2 hne)]; omega⟩
theorem hH_two {s st : Int} {n : Nat} {hi hi' hi2 : Nat → Int} (h0 : 1 ≤ st) (hn : 1 ≤ n) {x : Int} (h1 : s ≤ x) (h2 : x ≤ s + ((n : Int) - 1) * st) :
    ((∀ i, i < n → hi2 i = max (hi i) (hi' i)) → hH s st hi2 x = max (hH s st hi x) (hH s st hi' x)) ∧ ((∀ i, i < n → hi2 i = min (hi i) (hi' i)) → hH s st hi2 x ≤ hH s st hi x ∧ hH s st hi2 x ≤ hH s st hi' x) := by
  obtain ⟨k1, k2⟩ := idx h0 hn h1 h2
  unfold hH
  split
  · exact ⟨fun h => h _ k1, fun h => by rw [h _ k1]; omega⟩
  · rename_i hne
    exact ⟨fun h => by rw [h _ k1, h _ (k2 hne)]; omega, fun h => by rw [h _ k1, h _ (k2 hne)]; omega⟩
theorem both_j {s st : Int} {n : Nat} {lo hi lo' hi' : Nat → Int} {f u : Int} (h1 : tval s st n lo hi = true) (h2 : tval s st n lo' hi' = true) (h : HE s st n lo hi f u = 0) :
    jE (HL s st n lo hi f u) (HH s st n lo hi f u) (HL s st n lo' hi' f u) (HH s st n lo' hi' f u) = 0 ∧ Hid (jL (HL s st n lo hi f u) (HH s st n lo hi f u) (HL s st n lo' hi' f u) (HH s st n lo' hi' f u) = HL s st n (jl lo hi lo' hi') (jh lo hi lo' hi') f u) ∧ Hid (jH (HL s st n lo hi f u) (HH s st n lo hi f u) (HL s st n lo' hi' f u) (HH s st n lo' hi' f u) = HH s st n (jl lo hi lo' hi') (jh lo hi lo' hi') f u) ∧ HL s st n (jl lo hi lo' hi') (jh lo hi lo' hi') f u = min (HL s st n lo hi f u) (HL s st n lo' hi' f u) := by
  have hj := tval_j h1 h2
  have g2 := (he_same h1 h2 f u).trans h
  have g3 := (he_same h1 hj f u).trans h
  obtain ⟨hv, bd, m1, M1, r1⟩ := he_ok h
  obtain ⟨hv2, _, m2, M2, r2⟩ := he_ok g2
  obtain ⟨hv3, _, m3, M3, r3⟩ := he_ok g3
  have ej := fun i hi_ => jall hv hv2 (i := i) hi_
  have e1 : HL s st n (jl lo hi lo' hi') (jh lo hi lo' hi') f u = min (HL s st n lo hi f u) (HL s st n lo' hi' f u) := by
    refine m3.uniq ⟨fun t t1 t2 => ?_, ?_⟩
    · have := (hL_two (s := s) (lo := lo) (lo' := lo') (lo2 := jl lo hi lo' hi') hv.st0 hv.n0 (x := t) (by omega) (by omega)).1 (fun i hi_ => (ej i hi_).2.1)
      have := m1.1 t t1 t2; have := m2.1 t t1 t2; omega
    · obtain ⟨_, t, t1, t2, t3⟩ := m1
      obtain ⟨_, r, q1, q2, q3⟩ := m2
      by_cases k : HL s st n lo hi f u ≤ HL s st n lo' hi' f u
      · refine ⟨t, t1, t2, ?_⟩
        have := (hL_two (s := s) (lo := lo) (lo' := lo') (lo2 := jl lo hi lo' hi') hv.st0 hv.n0 (x := t) (by omega) (by omega)).1 (fun i hi_ => (ej i hi_).2.1)
        obtain ⟨a2, _⟩ := he_ok g2 |>.2.2.1
        have := a2 t t1 t2; omega
      · refine ⟨r, q1, q2, ?_⟩
        have := (hL_two (s := s) (lo := lo) (lo' := lo') (lo2 := jl lo hi lo' hi') hv.st0 hv.n0 (x := r) (by omega) (by omega)).1 (fun i hi_ => (ej i hi_).2.1)
        obtain ⟨a2, _⟩ := he_ok h |>.2.2.1
        have := a2 r q1 q2; omega
  have e2 : HH s st n (jl lo hi lo' hi') (jh lo hi lo' hi') f u = max (HH s st n lo hi f u) (HH s st n lo' hi' f u) := by
    refine M3.uniq ⟨fun t t1 t2 => ?_, ?_⟩
    · have := (hH_two (s := s) (hi := hi) (hi' := hi') (hi2 := jh lo hi lo' hi') hv.st0 hv.n0 (x := t) (by omega) (by omega)).1 (fun i hi_ => (ej i hi_).2.2)
      have := M1.1 t t1 t2; have := M2.1 t t1 t2; omega
    · obtain ⟨_, t, t1, t2, t3⟩ := M1
      obtain ⟨_, r, q1, q2, q3⟩ := M2
      by_cases k : HH s st n lo' hi' f u ≤ HH s st n lo hi f u
      · refine ⟨t, t1, t2, ?_⟩
        have := (hH_two (s := s) (hi := hi) (hi' := hi') (hi2 := jh lo hi lo' hi') hv.st0 hv.n0 (x := t) (by omega) (by omega)).1 (fun i hi_ => (ej i hi_).2.2)
        obtain ⟨a2, _⟩ := he_ok g2 |>.2.2.2.1
        have := a2 t t1 t2; omega
      · refine ⟨r, q1, q2, ?_⟩
        have := (hH_two (s := s) (hi := hi) (hi' := hi') (hi2 := jh lo hi lo' hi') hv.st0 hv.n0 (x := r) (by omega) (by omega)).1 (fun i hi_ => (ej i hi_).2.2)
        obtain ⟨a2, _⟩ := he_ok h |>.2.2.2.1
        have := a2 r q1 q2; omega
  obtain ⟨j1, j2, j3⟩ := jj r1 r2
  exact ⟨j1, Lib.hid (by omega), Lib.hid (by omega), e1⟩
theorem both_m {s st : Int} {n : Nat} {lo hi lo' hi' : Nat → Int} {f u : Int} (h1 : tval s st n lo hi = true) (h2 : tval s st n lo' hi' = true) (hm : mgo n lo hi lo' hi') (h : HE s st n lo hi f u = 0) :
    jE (HL s st n (ml lo hi lo' hi') (mh lo hi lo' hi') f u) (HH s st n (ml lo hi lo' hi') (mh lo hi lo' hi') f u) (HL s st n lo hi f u) (HH s st n lo hi f u) = 0 ∧ jE (HL s st n (ml lo hi lo' hi') (mh lo hi lo' hi') f u) (HH s st n (ml lo hi lo' hi') (mh lo hi lo' hi') f u) (HL s st n lo' hi' f u) (HH s st n lo' hi' f u) = 0 ∧ wi (HL s st n (ml lo hi lo' hi') (mh lo hi lo' hi') f u) (HH s st n (ml lo hi lo' hi') (mh lo hi lo' hi') f u) (HL s st n lo hi f u) (HH s st n lo hi f u) = true ∧ wi (HL s st n (ml lo hi lo' hi') (mh lo hi lo' hi') f u) (HH s st n (ml lo hi lo' hi') (mh lo hi lo' hi') f u) (HL s st n lo' hi' f u) (HH s st n lo' hi' f u) = true ∧
    HL s st n lo hi f u ≤ HL s st n (ml lo hi lo' hi') (mh lo hi lo' hi') f u ∧ HL s st n lo' hi' f u ≤ HL s st n (ml lo hi lo' hi') (mh lo hi lo' hi') f u := by
  have hj := tval_m h1 h2 hm
  have g2 := (he_same h1 h2 f u).trans h
  have g3 := (he_same h1 hj f u).trans h
  obtain ⟨hv, bd, m1, M1, r1⟩ := he_ok h
  obtain ⟨hv2, _, m2, M2, r2⟩ := he_ok g2
  obtain ⟨hv3, _, m3, M3, r3⟩ := he_ok g3
  have ej := fun i hi_ => mgo_at hv hv2 hm (i := i) hi_
  obtain ⟨_, t, t1, t2, t3⟩ := m3
  obtain ⟨_, r, q1, q2, q3⟩ := M3
  have a1 := (hL_two (s := s) (lo := lo) (lo' := lo') (lo2 := ml lo hi lo' hi') hv.st0 hv.n0 (x := t) (by omega) (by omega)).2 (fun i hi_ => (ej i hi_).1)
  have a2 := (hH_two (s := s) (hi := hi) (hi' := hi') (hi2 := mh lo hi lo' hi') hv.st0 hv.n0 (x := r) (by omega) (by omega)).2 (fun i hi_ => (ej i hi_).2.1)
  have b1 := m1.1 t t1 t2
  have b2 := m2.1 t t1 t2
  have b3 := M1.1 r q1 q2
  have b4 := M2.1 r q1 q2
  exact ⟨(jj r3 r1).1, (jj r3 r2).1, wi_t r3 r1 (by omega), wi_t r3 r2 (by omega), by omega, by omega⟩
theorem same_m {s st : Int} {n : Nat} {lo hi lo' hi' : Nat → Int} (h1 : tval s st n lo hi = true) (h2 : tval s st n lo' hi' = true) (hm : mgo n lo hi lo' hi') : same s st s st n n (ml lo hi lo' hi') (mh lo hi lo' hi') (ml lo' hi' lo hi) (mh lo' hi' lo hi) = true := by
  have hv := tval_tv h1
  have hv2 := tval_tv h2
  have : sameL n n (ml lo hi lo' hi') (mh lo hi lo' hi') (ml lo' hi' lo hi) (mh lo' hi' lo hi) = true := decide_eq_true ⟨rfl, fun i hi_ => by
    have e1 := mgo_at hv hv2 hm hi_
    have e2 := mgo_at hv2 hv (mgo_symm hv hv2 hm) hi_
    omega⟩
  rw [same, this, decide_eq_true ⟨rfl, rfl⟩]; rfl

def inW (ws : List (Int × Int)) (time : Int) (k : Nat) : Bool := decide (∃ j, j < k ∧ L1 ws j ≤ time ∧ time ≤ L2 ws j)
theorem inW_0 (ws : List (Int × Int)) (time : Int) : inW ws time 0 = false := decide_eq_false (fun ⟨j, hj, _⟩ => absurd hj (Nat.not_lt_zero _))
theorem inW_s (ws : List (Int × Int)) (time : Int) (k : Nat) : inW ws time (k + 1) = (inW ws time k || (decide (L1 ws k ≤ time) && decide (time ≤ L2 ws k))) := by
  rw [Bool.eq_iff_iff]
  simp only [inW, Bool.or_eq_true, Bool.and_eq_true, decide_eq_true_eq]
  constructor
  · rintro ⟨j, hj, h⟩
    by_cases e : j = k
    · subst e; exact Or.inr h
    · exact Or.inl ⟨j, by omega, h⟩
  · rintro (⟨j, hj, h⟩ | h)
    · exact ⟨j, by omega, h⟩
    · exact ⟨k, by omega, h⟩
theorem in_high {s st : Int} {n : Nat} {lo hi : Nat → Int} {need time : Int} (hv : tval s st n lo hi = true) (hn : nd need = true) : inW (WS s st n lo hi need) time (WS s st n lo hi need).length = (decide (HE s st n lo hi time time = 0) && decide (need ≤ HL s st n lo hi time time)) := by
  have W := ws_wn hv hn
  have hv' := tval_tv hv
  have hs0 := hv'.s0
  have hl := hv'.last
  rw [Bool.eq_iff_iff]
  simp only [inW, Bool.and_eq_true, decide_eq_true_eq]
  constructor
  · rintro ⟨j, hj, h⟩
    obtain ⟨a1, a2, a3⟩ := (W.cov time).1 ⟨_, ws_mem hj, h.1, h.2⟩
    have he : HE s st n lo hi time time = 0 := he_in hv (by omega)
    obtain ⟨_, _, m, _, _⟩ := he_ok he
    obtain ⟨t, t1, t2, t3⟩ := m.2
    have : t = time := by omega
    subst this
    exact ⟨he, by omega⟩
  · rintro ⟨he, h⟩
    obtain ⟨_, bd, m, _, _⟩ := he_ok he
    have := m.1 time (Int.le_refl _) (Int.le_refl _)
    obtain ⟨w, hw, w1, w2⟩ := (W.cov time).2 ⟨by omega, by omega, by omega⟩
    obtain ⟨j, hj, e1, e2⟩ := ws_get hw
    exact ⟨j, hj, by omega, by omega⟩
theorem we_nd {s st : Int} {n : Nat} {lo hi : Nat → Int} {need : Int} (h : WE s st n lo hi need = 0) : tval s st n lo hi = true ∧ nd need = true := by
  unfold WE at h
  cases k : (tval s st n lo hi && nd need) with
  | true => exact Bool.and_eq_true_iff.1 k
  | false => rw [k] at h; cases h

def inV (va : List (Int × Int)) (x y : Int) (q : Nat) : Bool := decide (∃ r, r < q ∧ L1 va r ≤ x ∧ y ≤ L2 va r)
theorem inV_0 (va : List (Int × Int)) (x y : Int) : inV va x y 0 = false := decide_eq_false (fun ⟨j, hj, _⟩ => absurd hj (Nat.not_lt_zero _))
theorem inV_s (va : List (Int × Int)) (x y : Int) (k : Nat) : inV va x y (k + 1) = (inV va x y k || (decide (L1 va k ≤ x) && decide (y ≤ L2 va k))) := by
  rw [Bool.eq_iff_iff]
  simp only [inV, Bool.or_eq_true, Bool.and_eq_true, decide_eq_true_eq]
  constructor
  · rintro ⟨j, hj, h⟩
    by_cases e : j = k
    · subst e; exact Or.inr h
    · exact Or.inl ⟨j, by omega, h⟩
  · rintro (⟨j, hj, h⟩ | h)
    · exact ⟨j, by omega, h⟩
    · exact ⟨k, by omega, h⟩
theorem inV_t {s st : Int} {n : Nat} {lo hi : Nat → Int} {need more : Int} (hv : tval s st n lo hi = true) (h1 : nd need = true) (h2 : nd more = true) (h : need ≤ more) {k : Nat} (hk : k < (WS s st n lo hi more).length) :
    inV (WS s st n lo hi need) (L1 (WS s st n lo hi more) k) (L2 (WS s st n lo hi more) k) (WS s st n lo hi need).length = true := by
  have A := ws_wn hv h1
  have B := ws_wn hv h2
  have ok := ws_at (ws_ok s st n lo hi more).1 hk
  have mem := ws_mem hk
  have c1 := (B.cov (L1 (WS s st n lo hi more) k)).1 ⟨_, mem, Int.le_refl _, ok.2.1⟩
  have c2 := (B.cov (L2 (WS s st n lo hi more) k)).1 ⟨_, mem, ok.2.1, Int.le_refl _⟩
  obtain ⟨j, hj, j1, j2⟩ := wn_one A ok.2.1 c1.1 c2.2.1 (fun t t1 t2 => by have := ((B.cov t).1 ⟨_, mem, t1, t2⟩).2.2; omega)
  exact decide_eq_true ⟨j, hj, j1, j2⟩

end Go.Proofs.Ythfnmooeijneoaa
