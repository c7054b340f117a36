/- Hb: which operation of a notice its office is not entitled to, as a plain function. -/
import Derived.Test.YtbckibbgajfihaaGreatHa
import Derived.Test.YtbckibbgajfihaaGreatK
set_option linter.unusedVariables false
set_option linter.unusedSimpArgs false
namespace Go.Proofs.YtbckibbgajfihaaGreat
open Go.RowKit Go.Sea
def namN (o : OpS) : Nat := if o.kd = 3 then 1 else if o.kd ≠ 1 then 0 else if o.f.kd = 3 ∨ o.f.kd = 6 then o.f.n else 1
def namP (o : OpS) (i c : Nat) : Int := if o.kd = 3 then (if c = 0 then o.x else o.y) else if o.kd ≠ 1 then 0 else if o.f.kd = 3 ∨ o.f.kd = 6 then o.f.P i c else (if c = 0 then o.f.x else o.f.y)
theorem namN_le {o : OpS} (h : o.f.Ok) : namN o ≤ 9223372036854775807 := by
  have := h.n
  unfold namN; repeat' split
  all_goals omega
def badP (A : Acc) (oc : Int) (o : OpS) : Bool := decide (∃ i, i < namN o ∧ ofV A (namP o i 0) (namP o i 1) ≠ oc)
def fstB (b : Nat → Bool) : Nat → Nat
  | 0 => 0
  | k + 1 => if fstB b k < k then fstB b k else if b k = true then k else k + 1
theorem fstB_le (b : Nat → Bool) : ∀ k, fstB b k ≤ k
  | 0 => Nat.le_refl _
  | k + 1 => by
    have := fstB_le b k
    simp only [fstB]; repeat' split
    all_goals omega
theorem fstB_t {b : Nat → Bool} : ∀ k, (∀ j, j < k → b j = false) → fstB b k = k
  | 0, _ => rfl
  | k + 1, h => by
    have h1 := fstB_t k fun j hj => h j (by omega)
    have h2 := h k (by omega)
    simp only [fstB]
    rw [if_neg (by omega), if_neg (by rw [h2]; simp)]
theorem fstB_h {b : Nat → Bool} {i : Nat} (h : b i = true) (g : ∀ j, j < i → b j = false) : ∀ k, i < k → fstB b k = i
  | 0, hk => by omega
  | k + 1, hk => by
    simp only [fstB]
    by_cases hi : i < k
    · have h1 := fstB_h h g k hi
      rw [h1, if_pos hi]
    · have e : i = k := by omega
      subst e
      rw [fstB_t i g, if_neg (by omega), if_pos h]
def rgO (A : Acc) (oc : Int) (p : PartS) : Nat := fstB (fun j => badP A oc (p.o j)) p.k
def rgP (A : Acc) (N : NotS) : Nat := fstB (fun i => decide (rgO A N.oc (N.p i) < (N.p i).k)) N.n
def cnt (p : Nat → PartS) : Nat → Nat
  | 0 => 0
  | i + 1 => cnt p i + (p i).k
def rgV (A : Acc) (N : NotS) : Int := if rgP A N < N.n then ((cnt N.p (rgP A N) + rgO A N.oc (N.p (rgP A N)) : Nat) : Int) else -1
/-- All operations ahead of operation j of part i are the office's. -/
def gdI (A : Acc) (oc : Int) (p : PartS) (j : Nat) : Prop := ∀ j', j' < j → badP A oc (p.o j') = false
def gdP (A : Acc) (N : NotS) (i : Nat) : Prop := ∀ i', i' < i → gdI A N.oc (N.p i') (N.p i').k
theorem rgO_g {A : Acc} {oc : Int} {p : PartS} (h : gdI A oc p p.k) : rgO A oc p = p.k := fstB_t _ h
theorem rg_none {A : Acc} {N : NotS} (h : gdP A N N.n) : rgV A N = -1 := by
  have : rgP A N = N.n := fstB_t _ fun i hi => decide_eq_false (by rw [rgO_g (h i hi)]; omega)
  unfold rgV; rw [this, if_neg (by omega)]
theorem rg_hit {A : Acc} {N : NotS} {i j : Nat} (hi : i < N.n) (hj : j < (N.p i).k) (hp : gdP A N i) (ho : gdI A N.oc (N.p i) j) (hb : badP A N.oc ((N.p i).o j) = true) : rgV A N = ((cnt N.p i + j : Nat) : Int) := by
  have h1 : rgO A N.oc (N.p i) = j := fstB_h (b := fun j => badP A N.oc ((N.p i).o j)) hb ho _ hj
  have h2 : rgP A N = i := fstB_h (b := fun i => decide (rgO A N.oc (N.p i) < (N.p i).k)) (decide_eq_true (by rw [h1]; exact hj)) (fun i' hi' => decide_eq_false (by rw [rgO_g (hp i' hi')]; omega)) _ hi
  unfold rgV; rw [h2, if_pos hi, h1]
theorem cnt_mono (p : Nat → PartS) {i : Nat} : ∀ k, i ≤ k → cnt p i ≤ cnt p k
  | 0, h => by obtain rfl : i = 0 := by omega
               exact Nat.le_refl _
  | k + 1, h => by
    by_cases e : i = k + 1
    · rw [e]; exact Nat.le_refl _
    · have := cnt_mono p (i := i) k (by omega)
      simp only [cnt]; omega
theorem cnt_le {N : NotS} (h : notB N = true) : ∀ i, i ≤ N.n → cnt N.p i ≤ 100 * i
  | 0, _ => Nat.le_refl _
  | i + 1, hi => by
    have h1 := cnt_le h i (by omega)
    have h2 := (of_decide_eq_true ((of_decide_eq_true h).2 i (by omega)).2).1.2.2
    simp only [cnt]; omega
theorem not_n {N : NotS} (h : notB N = true) : N.n ≤ 20 := (of_decide_eq_true h).1.2.2
theorem not_k {N : NotS} (h : notB N = true) {i : Nat} (hi : i < N.n) : (N.p i).k ≤ 100 := (of_decide_eq_true ((of_decide_eq_true h).2 i hi).2).1.2.2
def rgtB (n : Nat) (a : Nat → Acc) (N : NotS) : Bool := listB n a && notB N
def rgtA (n : Nat) (a : Nat → Acc) (N : NotS) : Acc := lastA (fN a N.fr n) a
def rgtV (n : Nat) (a : Nat → Acc) (N : NotS) : Int := if rgtB n a N = true then rgV (rgtA n a N) N else 0
def rgtE (n : Nat) (a : Nat → Acc) (N : NotS) : Int := if rgtB n a N = true then 0 else 1
def entB (A : Acc) (oc : Int) (o : OpS) (l : Nat) : Bool := decide (∀ l', l' < l → ofV A (namP o l' 0) (namP o l' 1) = oc)
theorem bad_1 {A : Acc} {oc : Int} {o : OpS} {l : Nat} (h : (l : Int) < namN o) (g : ofV A (namP o l 0) (namP o l 1) ≠ oc) : badP A oc o = true := decide_eq_true ⟨l, by omega, g⟩
theorem bad_0 {A : Acc} {oc : Int} {o : OpS} {l : Nat} (h : (namN o : Int) ≤ l) (g : ∀ l', l' < l → ofV A (namP o l' 0) (namP o l' 1) = oc) : badP A oc o = false := decide_eq_false fun ⟨i, h1, h2⟩ => h2 (g i (by omega))
end Go.Proofs.YtbckibbgajfihaaGreat
