/- YtbckibbgajfihaaGreatPi: a sector has a direction: the reference's way is the program's. -/
import Derived.Test.YtbckibbgajfihaaGreatGc
import Derived.Test.YtbckibbgajfihaaGreatPh
set_option linter.unusedVariables false
set_option linter.unusedSimpArgs false
namespace Go.Proofs.YtbckibbgajfihaaGreat
def cmpQ (p q : Bool) (A : Int) : Int := if p = q then - sgn A else if p = true then -1 else 1
def sg2 (p q : Bool) (A : Int) : Int := if p = q then A else -A
def Tr3 (a c b : Int) : Prop := 0 ≤ a → 0 ≤ c → 0 ≤ b ∧ (0 < a ∨ 0 < c → 0 < b)
theorem sgn_p {z : Int} (h : 0 < z) : sgn z = 1 := by unfold sgn; rw [if_pos h]
theorem sgn_n {z : Int} (h : z < 0) : sgn z = -1 := by unfold sgn; rw [if_neg (by omega), if_pos h]
theorem sgn_0 {z : Int} (h : z = 0) : sgn z = 0 := by subst h; rfl
theorem has_abs0 (A B C D1 D2 D3 : Int) (hA : A = 0 → (0 < D1 ↔ false = false)) (hB : B = 0 → (0 < D2 ↔ false = false)) (hC : C = 0 → (0 < D3 ↔ false = false))
    (t1 : Tr3 (sg2 false false A) (sg2 false false C) (sg2 false false B)) (t2 : Tr3 (sg2 false false B) (-sg2 false false C) (sg2 false false A)) (t3 : Tr3 (-sg2 false false A) (sg2 false false B) (sg2 false false C))
    (t4 : Tr3 (sg2 false false C) (-sg2 false false B) (-sg2 false false A)) (t5 : Tr3 (-sg2 false false B) (sg2 false false A) (-sg2 false false C)) (t6 : Tr3 (-sg2 false false C) (-sg2 false false A) (-sg2 false false B)) :
    (if (decide (A = 0 ∧ 0 < D1) || decide (B = 0 ∧ 0 < D2)) = true then true else if decide (C = 0 ∧ 0 < D3) = true then false else if B > 0 then decide (-C > 0 ∨ A ≤ 0) else decide (-C > 0 ∧ A < 0))
    = (if cmpQ false false A = -1 then decide (cmpQ false false B ≤ 0) && !decide (cmpQ false false C ≤ 0) else if cmpQ false false A = 1 then decide (cmpQ false false B ≤ 0) || !decide (cmpQ false false C ≤ 0) else true) := by
  unfold Tr3 at t1 t2 t3 t4 t5 t6
  simp only [sg2, cmpQ, reduceCtorEq, if_true, if_false, iff_true, iff_false, if_neg Bool.false_ne_true, not_false_eq_true, Bool.true_eq_false, Bool.false_eq_true] at hA hB hC t1 t2 t3 t4 t5 t6 ⊢ <;>
    rcases Int.lt_trichotomy A 0 with a | a | a <;> rcases Int.lt_trichotomy B 0 with b | b | b <;> rcases Int.lt_trichotomy C 0 with c | c | c <;>
    first
    | (exfalso; omega)
    | (first | rw [sgn_n a] | rw [sgn_0 a] | rw [sgn_p a] | skip
       first | rw [sgn_n b] | rw [sgn_0 b] | rw [sgn_p b] | skip
       first | rw [sgn_n c] | rw [sgn_0 c] | rw [sgn_p c] | skip
       refine Bool.eq_iff_iff.2 ?_
       simp only [Bool.or_eq_true, decide_eq_true_eq]
       repeat' split
       all_goals (try simp only [Bool.and_eq_true, Bool.or_eq_true, decide_eq_true_eq, Bool.not_eq_true', decide_eq_false_iff_not, iff_self, true_iff, iff_true, Bool.false_eq_true, false_iff, iff_false, Int.neg_neg])
       all_goals (first | omega | exact absurd True.intro (by assumption)))
theorem has_abs1 (A B C D1 D2 D3 : Int) (hA : A = 0 → (0 < D1 ↔ false = false)) (hB : B = 0 → (0 < D2 ↔ false = true)) (hC : C = 0 → (0 < D3 ↔ false = true))
    (t1 : Tr3 (sg2 false false A) (sg2 false true C) (sg2 false true B)) (t2 : Tr3 (sg2 false true B) (-sg2 false true C) (sg2 false false A)) (t3 : Tr3 (-sg2 false false A) (sg2 false true B) (sg2 false true C))
    (t4 : Tr3 (sg2 false true C) (-sg2 false true B) (-sg2 false false A)) (t5 : Tr3 (-sg2 false true B) (sg2 false false A) (-sg2 false true C)) (t6 : Tr3 (-sg2 false true C) (-sg2 false false A) (-sg2 false true B)) :
    (if (decide (A = 0 ∧ 0 < D1) || decide (B = 0 ∧ 0 < D2)) = true then true else if decide (C = 0 ∧ 0 < D3) = true then false else if B > 0 then decide (-C > 0 ∨ A ≤ 0) else decide (-C > 0 ∧ A < 0))
    = (if cmpQ false false A = -1 then decide (cmpQ false true B ≤ 0) && !decide (cmpQ false true C ≤ 0) else if cmpQ false false A = 1 then decide (cmpQ false true B ≤ 0) || !decide (cmpQ false true C ≤ 0) else true) := by
  unfold Tr3 at t1 t2 t3 t4 t5 t6
  simp only [sg2, cmpQ, reduceCtorEq, if_true, if_false, iff_true, iff_false, if_neg Bool.false_ne_true, not_false_eq_true, Bool.true_eq_false, Bool.false_eq_true] at hA hB hC t1 t2 t3 t4 t5 t6 ⊢ <;>
    rcases Int.lt_trichotomy A 0 with a | a | a <;> rcases Int.lt_trichotomy B 0 with b | b | b <;> rcases Int.lt_trichotomy C 0 with c | c | c <;>
    first
    | (exfalso; omega)
    | (first | rw [sgn_n a] | rw [sgn_0 a] | rw [sgn_p a] | skip
       first | rw [sgn_n b] | rw [sgn_0 b] | rw [sgn_p b] | skip
       first | rw [sgn_n c] | rw [sgn_0 c] | rw [sgn_p c] | skip
       refine Bool.eq_iff_iff.2 ?_
       simp only [Bool.or_eq_true, decide_eq_true_eq]
       repeat' split
       all_goals (try simp only [Bool.and_eq_true, Bool.or_eq_true, decide_eq_true_eq, Bool.not_eq_true', decide_eq_false_iff_not, iff_self, true_iff, iff_true, Bool.false_eq_true, false_iff, iff_false, Int.neg_neg])
       all_goals (first | omega | exact absurd True.intro (by assumption)))
theorem has_abs2 (A B C D1 D2 D3 : Int) (hA : A = 0 → (0 < D1 ↔ false = true)) (hB : B = 0 → (0 < D2 ↔ false = false)) (hC : C = 0 → (0 < D3 ↔ true = false))
    (t1 : Tr3 (sg2 false true A) (sg2 true false C) (sg2 false false B)) (t2 : Tr3 (sg2 false false B) (-sg2 true false C) (sg2 false true A)) (t3 : Tr3 (-sg2 false true A) (sg2 false false B) (sg2 true false C))
    (t4 : Tr3 (sg2 true false C) (-sg2 false false B) (-sg2 false true A)) (t5 : Tr3 (-sg2 false false B) (sg2 false true A) (-sg2 true false C)) (t6 : Tr3 (-sg2 true false C) (-sg2 false true A) (-sg2 false false B)) :
    (if (decide (A = 0 ∧ 0 < D1) || decide (B = 0 ∧ 0 < D2)) = true then true else if decide (C = 0 ∧ 0 < D3) = true then false else if B > 0 then decide (-C > 0 ∨ A ≤ 0) else decide (-C > 0 ∧ A < 0))
    = (if cmpQ false true A = -1 then decide (cmpQ false false B ≤ 0) && !decide (cmpQ true false C ≤ 0) else if cmpQ false true A = 1 then decide (cmpQ false false B ≤ 0) || !decide (cmpQ true false C ≤ 0) else true) := by
  unfold Tr3 at t1 t2 t3 t4 t5 t6
  simp only [sg2, cmpQ, reduceCtorEq, if_true, if_false, iff_true, iff_false, if_neg Bool.false_ne_true, not_false_eq_true, Bool.true_eq_false, Bool.false_eq_true] at hA hB hC t1 t2 t3 t4 t5 t6 ⊢ <;>
    rcases Int.lt_trichotomy A 0 with a | a | a <;> rcases Int.lt_trichotomy B 0 with b | b | b <;> rcases Int.lt_trichotomy C 0 with c | c | c <;>
    first
    | (exfalso; omega)
    | (first | rw [sgn_n a] | rw [sgn_0 a] | rw [sgn_p a] | skip
       first | rw [sgn_n b] | rw [sgn_0 b] | rw [sgn_p b] | skip
       first | rw [sgn_n c] | rw [sgn_0 c] | rw [sgn_p c] | skip
       refine Bool.eq_iff_iff.2 ?_
       simp only [Bool.or_eq_true, decide_eq_true_eq]
       repeat' split
       all_goals (try simp only [Bool.and_eq_true, Bool.or_eq_true, decide_eq_true_eq, Bool.not_eq_true', decide_eq_false_iff_not, iff_self, true_iff, iff_true, Bool.false_eq_true, false_iff, iff_false, Int.neg_neg])
       all_goals (first | omega | exact absurd True.intro (by assumption)))
theorem has_abs3 (A B C D1 D2 D3 : Int) (hA : A = 0 → (0 < D1 ↔ false = true)) (hB : B = 0 → (0 < D2 ↔ false = true)) (hC : C = 0 → (0 < D3 ↔ true = true))
    (t1 : Tr3 (sg2 false true A) (sg2 true true C) (sg2 false true B)) (t2 : Tr3 (sg2 false true B) (-sg2 true true C) (sg2 false true A)) (t3 : Tr3 (-sg2 false true A) (sg2 false true B) (sg2 true true C))
    (t4 : Tr3 (sg2 true true C) (-sg2 false true B) (-sg2 false true A)) (t5 : Tr3 (-sg2 false true B) (sg2 false true A) (-sg2 true true C)) (t6 : Tr3 (-sg2 true true C) (-sg2 false true A) (-sg2 false true B)) :
    (if (decide (A = 0 ∧ 0 < D1) || decide (B = 0 ∧ 0 < D2)) = true then true else if decide (C = 0 ∧ 0 < D3) = true then false else if B > 0 then decide (-C > 0 ∨ A ≤ 0) else decide (-C > 0 ∧ A < 0))
    = (if cmpQ false true A = -1 then decide (cmpQ false true B ≤ 0) && !decide (cmpQ true true C ≤ 0) else if cmpQ false true A = 1 then decide (cmpQ false true B ≤ 0) || !decide (cmpQ true true C ≤ 0) else true) := by
  unfold Tr3 at t1 t2 t3 t4 t5 t6
  simp only [sg2, cmpQ, reduceCtorEq, if_true, if_false, iff_true, iff_false, if_neg Bool.false_ne_true, not_false_eq_true, Bool.true_eq_false, Bool.false_eq_true] at hA hB hC t1 t2 t3 t4 t5 t6 ⊢ <;>
    rcases Int.lt_trichotomy A 0 with a | a | a <;> rcases Int.lt_trichotomy B 0 with b | b | b <;> rcases Int.lt_trichotomy C 0 with c | c | c <;>
    first
    | (exfalso; omega)
    | (first | rw [sgn_n a] | rw [sgn_0 a] | rw [sgn_p a] | skip
       first | rw [sgn_n b] | rw [sgn_0 b] | rw [sgn_p b] | skip
       first | rw [sgn_n c] | rw [sgn_0 c] | rw [sgn_p c] | skip
       refine Bool.eq_iff_iff.2 ?_
       simp only [Bool.or_eq_true, decide_eq_true_eq]
       repeat' split
       all_goals (try simp only [Bool.and_eq_true, Bool.or_eq_true, decide_eq_true_eq, Bool.not_eq_true', decide_eq_false_iff_not, iff_self, true_iff, iff_true, Bool.false_eq_true, false_iff, iff_false, Int.neg_neg])
       all_goals (first | omega | exact absurd True.intro (by assumption)))
theorem has_abs4 (A B C D1 D2 D3 : Int) (hA : A = 0 → (0 < D1 ↔ true = false)) (hB : B = 0 → (0 < D2 ↔ true = false)) (hC : C = 0 → (0 < D3 ↔ false = false))
    (t1 : Tr3 (sg2 true false A) (sg2 false false C) (sg2 true false B)) (t2 : Tr3 (sg2 true false B) (-sg2 false false C) (sg2 true false A)) (t3 : Tr3 (-sg2 true false A) (sg2 true false B) (sg2 false false C))
    (t4 : Tr3 (sg2 false false C) (-sg2 true false B) (-sg2 true false A)) (t5 : Tr3 (-sg2 true false B) (sg2 true false A) (-sg2 false false C)) (t6 : Tr3 (-sg2 false false C) (-sg2 true false A) (-sg2 true false B)) :
    (if (decide (A = 0 ∧ 0 < D1) || decide (B = 0 ∧ 0 < D2)) = true then true else if decide (C = 0 ∧ 0 < D3) = true then false else if B > 0 then decide (-C > 0 ∨ A ≤ 0) else decide (-C > 0 ∧ A < 0))
    = (if cmpQ true false A = -1 then decide (cmpQ true false B ≤ 0) && !decide (cmpQ false false C ≤ 0) else if cmpQ true false A = 1 then decide (cmpQ true false B ≤ 0) || !decide (cmpQ false false C ≤ 0) else true) := by
  unfold Tr3 at t1 t2 t3 t4 t5 t6
  simp only [sg2, cmpQ, reduceCtorEq, if_true, if_false, iff_true, iff_false, if_neg Bool.false_ne_true, not_false_eq_true, Bool.true_eq_false, Bool.false_eq_true] at hA hB hC t1 t2 t3 t4 t5 t6 ⊢ <;>
    rcases Int.lt_trichotomy A 0 with a | a | a <;> rcases Int.lt_trichotomy B 0 with b | b | b <;> rcases Int.lt_trichotomy C 0 with c | c | c <;>
    first
    | (exfalso; omega)
    | (first | rw [sgn_n a] | rw [sgn_0 a] | rw [sgn_p a] | skip
       first | rw [sgn_n b] | rw [sgn_0 b] | rw [sgn_p b] | skip
       first | rw [sgn_n c] | rw [sgn_0 c] | rw [sgn_p c] | skip
       refine Bool.eq_iff_iff.2 ?_
       simp only [Bool.or_eq_true, decide_eq_true_eq]
       repeat' split
       all_goals (try simp only [Bool.and_eq_true, Bool.or_eq_true, decide_eq_true_eq, Bool.not_eq_true', decide_eq_false_iff_not, iff_self, true_iff, iff_true, Bool.false_eq_true, false_iff, iff_false, Int.neg_neg])
       all_goals (first | omega | exact absurd True.intro (by assumption)))
theorem has_abs5 (A B C D1 D2 D3 : Int) (hA : A = 0 → (0 < D1 ↔ true = false)) (hB : B = 0 → (0 < D2 ↔ true = true)) (hC : C = 0 → (0 < D3 ↔ false = true))
    (t1 : Tr3 (sg2 true false A) (sg2 false true C) (sg2 true true B)) (t2 : Tr3 (sg2 true true B) (-sg2 false true C) (sg2 true false A)) (t3 : Tr3 (-sg2 true false A) (sg2 true true B) (sg2 false true C))
    (t4 : Tr3 (sg2 false true C) (-sg2 true true B) (-sg2 true false A)) (t5 : Tr3 (-sg2 true true B) (sg2 true false A) (-sg2 false true C)) (t6 : Tr3 (-sg2 false true C) (-sg2 true false A) (-sg2 true true B)) :
    (if (decide (A = 0 ∧ 0 < D1) || decide (B = 0 ∧ 0 < D2)) = true then true else if decide (C = 0 ∧ 0 < D3) = true then false else if B > 0 then decide (-C > 0 ∨ A ≤ 0) else decide (-C > 0 ∧ A < 0))
    = (if cmpQ true false A = -1 then decide (cmpQ true true B ≤ 0) && !decide (cmpQ false true C ≤ 0) else if cmpQ true false A = 1 then decide (cmpQ true true B ≤ 0) || !decide (cmpQ false true C ≤ 0) else true) := by
  unfold Tr3 at t1 t2 t3 t4 t5 t6
  simp only [sg2, cmpQ, reduceCtorEq, if_true, if_false, iff_true, iff_false, if_neg Bool.false_ne_true, not_false_eq_true, Bool.true_eq_false, Bool.false_eq_true] at hA hB hC t1 t2 t3 t4 t5 t6 ⊢ <;>
    rcases Int.lt_trichotomy A 0 with a | a | a <;> rcases Int.lt_trichotomy B 0 with b | b | b <;> rcases Int.lt_trichotomy C 0 with c | c | c <;>
    first
    | (exfalso; omega)
    | (first | rw [sgn_n a] | rw [sgn_0 a] | rw [sgn_p a] | skip
       first | rw [sgn_n b] | rw [sgn_0 b] | rw [sgn_p b] | skip
       first | rw [sgn_n c] | rw [sgn_0 c] | rw [sgn_p c] | skip
       refine Bool.eq_iff_iff.2 ?_
       simp only [Bool.or_eq_true, decide_eq_true_eq]
       repeat' split
       all_goals (try simp only [Bool.and_eq_true, Bool.or_eq_true, decide_eq_true_eq, Bool.not_eq_true', decide_eq_false_iff_not, iff_self, true_iff, iff_true, Bool.false_eq_true, false_iff, iff_false, Int.neg_neg])
       all_goals (first | omega | exact absurd True.intro (by assumption)))
theorem has_abs6 (A B C D1 D2 D3 : Int) (hA : A = 0 → (0 < D1 ↔ true = true)) (hB : B = 0 → (0 < D2 ↔ true = false)) (hC : C = 0 → (0 < D3 ↔ true = false))
    (t1 : Tr3 (sg2 true true A) (sg2 true false C) (sg2 true false B)) (t2 : Tr3 (sg2 true false B) (-sg2 true false C) (sg2 true true A)) (t3 : Tr3 (-sg2 true true A) (sg2 true false B) (sg2 true false C))
    (t4 : Tr3 (sg2 true false C) (-sg2 true false B) (-sg2 true true A)) (t5 : Tr3 (-sg2 true false B) (sg2 true true A) (-sg2 true false C)) (t6 : Tr3 (-sg2 true false C) (-sg2 true true A) (-sg2 true false B)) :
    (if (decide (A = 0 ∧ 0 < D1) || decide (B = 0 ∧ 0 < D2)) = true then true else if decide (C = 0 ∧ 0 < D3) = true then false else if B > 0 then decide (-C > 0 ∨ A ≤ 0) else decide (-C > 0 ∧ A < 0))
    = (if cmpQ true true A = -1 then decide (cmpQ true false B ≤ 0) && !decide (cmpQ true false C ≤ 0) else if cmpQ true true A = 1 then decide (cmpQ true false B ≤ 0) || !decide (cmpQ true false C ≤ 0) else true) := by
  unfold Tr3 at t1 t2 t3 t4 t5 t6
  simp only [sg2, cmpQ, reduceCtorEq, if_true, if_false, iff_true, iff_false, if_neg Bool.false_ne_true, not_false_eq_true, Bool.true_eq_false, Bool.false_eq_true] at hA hB hC t1 t2 t3 t4 t5 t6 ⊢ <;>
    rcases Int.lt_trichotomy A 0 with a | a | a <;> rcases Int.lt_trichotomy B 0 with b | b | b <;> rcases Int.lt_trichotomy C 0 with c | c | c <;>
    first
    | (exfalso; omega)
    | (first | rw [sgn_n a] | rw [sgn_0 a] | rw [sgn_p a] | skip
       first | rw [sgn_n b] | rw [sgn_0 b] | rw [sgn_p b] | skip
       first | rw [sgn_n c] | rw [sgn_0 c] | rw [sgn_p c] | skip
       refine Bool.eq_iff_iff.2 ?_
       simp only [Bool.or_eq_true, decide_eq_true_eq]
       repeat' split
       all_goals (try simp only [Bool.and_eq_true, Bool.or_eq_true, decide_eq_true_eq, Bool.not_eq_true', decide_eq_false_iff_not, iff_self, true_iff, iff_true, Bool.false_eq_true, false_iff, iff_false, Int.neg_neg])
       all_goals (first | omega | exact absurd True.intro (by assumption)))
theorem has_abs7 (A B C D1 D2 D3 : Int) (hA : A = 0 → (0 < D1 ↔ true = true)) (hB : B = 0 → (0 < D2 ↔ true = true)) (hC : C = 0 → (0 < D3 ↔ true = true))
    (t1 : Tr3 (sg2 true true A) (sg2 true true C) (sg2 true true B)) (t2 : Tr3 (sg2 true true B) (-sg2 true true C) (sg2 true true A)) (t3 : Tr3 (-sg2 true true A) (sg2 true true B) (sg2 true true C))
    (t4 : Tr3 (sg2 true true C) (-sg2 true true B) (-sg2 true true A)) (t5 : Tr3 (-sg2 true true B) (sg2 true true A) (-sg2 true true C)) (t6 : Tr3 (-sg2 true true C) (-sg2 true true A) (-sg2 true true B)) :
    (if (decide (A = 0 ∧ 0 < D1) || decide (B = 0 ∧ 0 < D2)) = true then true else if decide (C = 0 ∧ 0 < D3) = true then false else if B > 0 then decide (-C > 0 ∨ A ≤ 0) else decide (-C > 0 ∧ A < 0))
    = (if cmpQ true true A = -1 then decide (cmpQ true true B ≤ 0) && !decide (cmpQ true true C ≤ 0) else if cmpQ true true A = 1 then decide (cmpQ true true B ≤ 0) || !decide (cmpQ true true C ≤ 0) else true) := by
  unfold Tr3 at t1 t2 t3 t4 t5 t6
  simp only [sg2, cmpQ, reduceCtorEq, if_true, if_false, iff_true, iff_false, if_neg Bool.false_ne_true, not_false_eq_true, Bool.true_eq_false, Bool.false_eq_true] at hA hB hC t1 t2 t3 t4 t5 t6 ⊢ <;>
    rcases Int.lt_trichotomy A 0 with a | a | a <;> rcases Int.lt_trichotomy B 0 with b | b | b <;> rcases Int.lt_trichotomy C 0 with c | c | c <;>
    first
    | (exfalso; omega)
    | (first | rw [sgn_n a] | rw [sgn_0 a] | rw [sgn_p a] | skip
       first | rw [sgn_n b] | rw [sgn_0 b] | rw [sgn_p b] | skip
       first | rw [sgn_n c] | rw [sgn_0 c] | rw [sgn_p c] | skip
       refine Bool.eq_iff_iff.2 ?_
       simp only [Bool.or_eq_true, decide_eq_true_eq]
       repeat' split
       all_goals (try simp only [Bool.and_eq_true, Bool.or_eq_true, decide_eq_true_eq, Bool.not_eq_true', decide_eq_false_iff_not, iff_self, true_iff, iff_true, Bool.false_eq_true, false_iff, iff_false, Int.neg_neg])
       all_goals (first | omega | exact absurd True.intro (by assumption)))
theorem has_abs (p q r : Bool) (A B C D1 D2 D3 : Int) (hA : A = 0 → (0 < D1 ↔ p = q)) (hB : B = 0 → (0 < D2 ↔ p = r)) (hC : C = 0 → (0 < D3 ↔ q = r))
    (t1 : Tr3 (sg2 p q A) (sg2 q r C) (sg2 p r B)) (t2 : Tr3 (sg2 p r B) (-sg2 q r C) (sg2 p q A)) (t3 : Tr3 (-sg2 p q A) (sg2 p r B) (sg2 q r C))
    (t4 : Tr3 (sg2 q r C) (-sg2 p r B) (-sg2 p q A)) (t5 : Tr3 (-sg2 p r B) (sg2 p q A) (-sg2 q r C)) (t6 : Tr3 (-sg2 q r C) (-sg2 p q A) (-sg2 p r B)) :
    (if (decide (A = 0 ∧ 0 < D1) || decide (B = 0 ∧ 0 < D2)) = true then true else if decide (C = 0 ∧ 0 < D3) = true then false else if B > 0 then decide (-C > 0 ∨ A ≤ 0) else decide (-C > 0 ∧ A < 0))
    = (if cmpQ p q A = -1 then decide (cmpQ p r B ≤ 0) && !decide (cmpQ q r C ≤ 0) else if cmpQ p q A = 1 then decide (cmpQ p r B ≤ 0) || !decide (cmpQ q r C ≤ 0) else true) := by
  cases p <;> cases q <;> cases r
  · exact has_abs0 A B C D1 D2 D3 hA hB hC t1 t2 t3 t4 t5 t6
  · exact has_abs1 A B C D1 D2 D3 hA hB hC t1 t2 t3 t4 t5 t6
  · exact has_abs2 A B C D1 D2 D3 hA hB hC t1 t2 t3 t4 t5 t6
  · exact has_abs3 A B C D1 D2 D3 hA hB hC t1 t2 t3 t4 t5 t6
  · exact has_abs4 A B C D1 D2 D3 hA hB hC t1 t2 t3 t4 t5 t6
  · exact has_abs5 A B C D1 D2 D3 hA hB hC t1 t2 t3 t4 t5 t6
  · exact has_abs6 A B C D1 D2 D3 hA hB hC t1 t2 t3 t4 t5 t6
  · exact has_abs7 A B C D1 D2 D3 hA hB hC t1 t2 t3 t4 t5 t6
theorem up_neg {x y : Int} (h : ¬ (x = 0 ∧ y = 0)) (g : upB x y = false) : Ph.up (-x) (-y) := by
  unfold upB at g; rw [decide_eq_false_iff_not] at g; unfold Ph.up; omega
theorem up_pos {x y : Int} (g : upB x y = true) : Ph.up x y := by unfold Ph.up; exact of_decide_eq_true g
def sx (p : Bool) (x : Int) : Int := if p = true then x else -x
theorem up_sx {x y : Int} (h : ¬ (x = 0 ∧ y = 0)) : Ph.up (sx (upB x y) x) (sx (upB x y) y) := by
  cases g : upB x y with
  | true => exact up_pos g
  | false => exact up_neg h g
theorem crs_sx (p q : Bool) (x y u v : Int) : sx p x * sx q v - sx p y * sx q u = sg2 p q (x * v - y * u) := by
  cases p <;> cases q <;> simp only [sx, sg2, Int.neg_mul, Int.mul_neg, Int.neg_neg, if_true, if_false, reduceCtorEq, Bool.false_eq_true] <;> omega
theorem dot_sx (p q : Bool) (x y u v : Int) : sx p x * sx q u + sx p y * sx q v = if p = q then x * u + y * v else -(x * u + y * v) := by
  cases p <;> cases q <;> simp only [sx, Int.neg_mul, Int.mul_neg, Int.neg_neg, if_true, if_false, reduceCtorEq, Bool.false_eq_true] <;> omega
theorem sg2_0 {p q : Bool} {A : Int} (h : A = 0) : sg2 p q A = 0 := by subst h; cases p <;> cases q <;> rfl
theorem al_sx {x y u v : Int} (hx : ¬ (x = 0 ∧ y = 0)) (hu : ¬ (u = 0 ∧ v = 0)) (h : x * v - y * u = 0) : 0 < x * u + y * v ↔ upB x y = upB u v := by
  have d := Ph.dot_up (up_sx hx) (up_sx hu) (by rw [crs_sx]; exact sg2_0 h)
  rw [dot_sx] at d
  constructor
  · intro g
    by_cases e : upB x y = upB u v
    · exact e
    · rw [if_neg e] at d; omega
  · intro e; rw [if_pos e] at d; exact d
theorem sg2_flip (p q : Bool) (A : Int) : sg2 q p (-A) = - sg2 p q A := by cases p <;> cases q <;> simp [sg2]
theorem tr_sx {x y u v z w : Int} (ha : ¬ (x = 0 ∧ y = 0)) (hb : ¬ (u = 0 ∧ v = 0)) (hc : ¬ (z = 0 ∧ w = 0)) : Tr3 (sg2 (upB x y) (upB u v) (x * v - y * u)) (sg2 (upB u v) (upB z w) (u * w - v * z)) (sg2 (upB x y) (upB z w) (x * w - y * z)) := by
  intro h1 h2
  rw [← crs_sx] at h1 h2 ⊢
  have h := Ph.tr_pp (up_sx ha) (up_sx hb) (up_sx hc) h1 h2
  rw [← crs_sx, ← crs_sx] 
  exact ⟨h.1, h.2.1⟩
theorem hasR_eq {x y u v z w : Int} (d1 : dirB x y = true) (d2 : dirB u v = true) (d3 : dirB z w = true) : hasR x y u v z w = hasP x y u v z w := by
  have n1 := (of_decide_eq_true d1).2
  have n2 := (of_decide_eq_true d2).2
  have n3 := (of_decide_eq_true d3).2
  have f1 : u * y - v * x = -(x * v - y * u) := Ph.flip x y u v
  have f2 : z * y - w * x = -(x * w - y * z) := Ph.flip x y z w
  have f3 : z * v - w * u = -(u * w - v * z) := Ph.flip u v z w
  have h := has_abs (upB x y) (upB u v) (upB z w) (x * v - y * u) (x * w - y * z) (u * w - v * z) (x * u + y * v) (x * z + y * w) (u * z + v * w) (al_sx n1 n2) (al_sx n1 n3) (al_sx n2 n3)
    (tr_sx n1 n2 n3)
    (by rw [← sg2_flip, ← f3]; exact tr_sx n1 n3 n2)
    (by rw [← sg2_flip, ← f1]; exact tr_sx n2 n1 n3)
    (by rw [← sg2_flip, ← sg2_flip, ← f2, ← f1]; exact tr_sx n2 n3 n1)
    (by rw [← sg2_flip, ← sg2_flip, ← f2, ← f3]; exact tr_sx n3 n1 n2)
    (by rw [← sg2_flip, ← sg2_flip, ← sg2_flip, ← f3, ← f1, ← f2]; exact tr_sx n3 n2 n1)
  unfold hasR hasP alkB
  rw [f3]
  exact h
end Go.Proofs.YtbckibbgajfihaaGreat
