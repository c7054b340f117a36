/- Tide: the stretches of a table, one after the other. -/
import Derived.Test.YtmljnelmnagfoaaE
import Derived.Test.YtmljnelmnagfoaaLI
import Derived.RangeFuncBound
import Derived.RangeFuncCalls
import Derived.RangeFuncLeaves
import Derived.Shelf.Abstract
import Derived.Shelf.RegionOpen
import Derived.TacticsInMore
import Derived.LoopNIn
import Derived.LoopIn
set_option linter.unusedVariables false
set_option linter.unusedSimpArgs false
namespace Go.Proofs.Ytmljnelmnagfoaa
open Go.RowKit Go.Shelf
attribute [local go_sem] Oper.semAt_some World.cell?_alloc_some frozen_alloc_some isSome_alloc isSome_setCell

abbrev Q4 := Int × Int × Int × Int
def okS (x : Q4) : Prop := 0 ≤ x.1 ∧ x.1 ≤ x.2.1 ∧ x.2.1 ≤ 10000000 ∧ -100000 ≤ x.2.2.1 ∧ x.2.2.1 ≤ x.2.2.2 ∧ x.2.2.2 ≤ 100000
abbrev St := { x : Q4 // okS x }
abbrev enc (x : St) : Value := .agg #[.int .i64 x.1.1, .int .i64 x.1.2.1, .int .i64 x.1.2.2.1, .int .i64 x.1.2.2.2]
def midS (s st : Int) (lo hi : Nat → Int) (k : Nat) : Q4 := (s + ((k : Int) + 1) * st - st + 1, s + ((k : Int) + 1) * st - 1, min (lo k) (lo (k + 1)), max (hi k) (hi (k + 1)))
def rowS (s st : Int) (lo hi : Nat → Int) (k : Nat) : Q4 := (s + (k : Int) * st, s + (k : Int) * st, lo k, hi k)
def strs (s st : Int) (lo hi : Nat → Int) : Nat → List Q4
  | 0 => []
  | 1 => [rowS s st lo hi 0]
  | k + 2 => strs s st lo hi (k + 1) ++ (if 1 < st then [midS s st lo hi k] else []) ++ [rowS s st lo hi (k + 1)]
theorem strs_len (s st : Int) (lo hi : Nat → Int) : ∀ k, (strs s st lo hi k).length ≤ 2 * k
  | 0 => by simp [strs]
  | 1 => by simp [strs]
  | k + 2 => by
    have := strs_len s st lo hi (k + 1)
    simp only [strs, List.length_append, List.length_singleton]
    split <;> simp <;> omega
theorem strs_one {s st : Int} {lo hi : Nat → Int} (h : ¬ 1 < st) : ∀ k, strs s st lo hi (k + 1) = strs s st lo hi k ++ [rowS s st lo hi k]
  | 0 => by simp [strs]
  | k + 1 => by simp [strs, h]
theorem strs_two {s st : Int} {lo hi : Nat → Int} (h : 1 < st) (k : Nat) : strs s st lo hi (k + 2) = strs s st lo hi (k + 1) ++ [midS s st lo hi k] ++ [rowS s st lo hi (k + 1)] := by simp [strs, h]
/-- A table that is valid, in the words that the walks want. -/
structure Tv (s st : Int) (n : Nat) (lo hi : Nat → Int) : Prop where
  s0 : 0 ≤ s
  s1 : s ≤ 10000000
  st0 : 1 ≤ st
  st1 : st ≤ 1000
  n0 : 1 ≤ n
  n1 : n ≤ 200
  last : s + ((n : Int) - 1) * st ≤ 10000000
  hs : ∀ i, i < n → -100000 ≤ lo i ∧ lo i ≤ hi i ∧ hi i ≤ 100000
theorem Tv.at {s st : Int} {n : Nat} {lo hi : Nat → Int} (h : Tv s st n lo hi) {k : Nat} (hk : k < n) : 0 ≤ (k : Int) * st ∧ s + (k : Int) * st ≤ 10000000 ∧ (k : Int) * st ≤ 199000 := by
  have a : 0 ≤ (k : Int) * st := Int.mul_nonneg (by omega) (by have := h.st0; omega)
  have b : (k : Int) * st ≤ ((n : Int) - 1) * st := Int.mul_le_mul_of_nonneg_right (by omega) (by have := h.st0; omega)
  obtain ⟨c, d⟩ := prod_bd h.n0 h.n1 h.st0 h.st1
  have := h.last
  omega
theorem tval_tv {s st : Int} {n : Nat} {lo hi : Nat → Int} (h : tval s st n lo hi = true) : Tv s st n lo hi := by
  obtain ⟨h1, h2⟩ := Bool.and_eq_true_iff.1 h
  obtain ⟨g1, g2, g3, g4, g5, g6, g7⟩ := of_decide_eq_true h1
  exact ⟨g1, g2, g3, g4, g5, g6, g7, fun i hi' => of_decide_eq_true (of_decide_eq_true h2 i hi')⟩
theorem row_ok {s st : Int} {n : Nat} {lo hi : Nat → Int} (h : Tv s st n lo hi) {k : Nat} (hk : k < n) : okS (rowS s st lo hi k) := by
  obtain ⟨a, b, c⟩ := h.at hk
  obtain ⟨d, e, f⟩ := h.hs k hk
  have := h.s0
  exact ⟨by simp [rowS]; omega, Int.le_refl _, b, d, e, f⟩
theorem mid_ok {s st : Int} {n : Nat} {lo hi : Nat → Int} (h : Tv s st n lo hi) {k : Nat} (hk : k + 1 < n) (h1 : 1 < st) : okS (midS s st lo hi k) := by
  obtain ⟨a, b, c⟩ := h.at hk
  obtain ⟨a', b', c'⟩ := h.at (show k < n by omega)
  obtain ⟨d, e, f⟩ := h.hs k (by omega)
  obtain ⟨d', e', f'⟩ := h.hs (k + 1) hk
  have := h.s0
  have e1 : ((k : Int) + 1) * st = (k : Int) * st + st := by rw [Int.add_mul, Int.one_mul]
  rw [show ((k + 1 : Nat) : Int) = (k : Int) + 1 by omega] at b c
  refine ⟨?_, ?_, ?_, ?_, ?_, ?_⟩ <;> simp only [midS] <;> omega
/-- Where the iterator stands: what the round before has left of what it reads. -/
structure Itv (n₀ bO Bn : Nat) (s st : Int) (p : Option Addr) (n c : Nat) (lo hi : Nat → Int) (wr : World) : Prop where
  safe : Safe bO wr
  nrow : rowAt bO wr ≠ some Bn
  blk : wr.heap[Bn]? = some (.cells #[.int .i64 s, .int .i64 st, .slice p n c] 24 (0, 0))
  lie : Lie wr p n lo hi
  own : ∀ a, p = some a → a.block < n₀
  bo : bO < wr.heap.size
  le : n₀ ≤ wr.heap.size
theorem Itv.keep {n₀ bO Bn : Nat} {s st : Int} {p : Option Addr} {n c : Nat} {lo hi : Nat → Int} {wr w' : World} (h : Itv n₀ bO Bn s st p n c lo hi wr) (hb : Below wr.heap.size wr w') : Itv n₀ bO Bn s st p n c lo hi w' := by
  have hr := rowAt_below hb h.bo
  refine ⟨fun k hk => ?_, by rw [hr]; exact h.nrow, (hb.block Bn (Array.getElem?_eq_some_iff.1 h.blk).1).trans h.blk, h.lie.keep hb, h.own, Nat.lt_of_lt_of_le h.bo hb.size, Nat.le_trans h.le hb.size⟩
  rw [hr] at hk; exact Nat.lt_of_lt_of_le (h.safe k hk) hb.size
theorem Lie.low {n₀ : Nat} {W w1 : World} {p : Option Addr} {n : Nat} {lo hi : Nat → Int} (hb : Below n₀ W w1) (hp : ∀ a, p = some a → a.block < n₀) (h : Lie W p n lo hi) : Lie w1 p n lo hi := by
  rcases h with h | ⟨b, off, rfl, hc⟩
  · exact Or.inl h
  · refine Or.inr ⟨b, off, rfl, fun i hi' => ?_⟩
    have := hp _ rfl
    exact ⟨(hb.cell (p := ⟨b, off + i * 2, none⟩) this).trans (hc i hi').1, (hb.cell (p := ⟨b, off + i * 2 + 1, none⟩) this).trans (hc i hi').2⟩
theorem Itv.kp {n₀ bO B Bn : Nat} {s st : Int} {p : Option Addr} {n c : Nat} {lo hi : Nat → Int} {wr w' : World} (h : Itv n₀ bO Bn s st p n c lo hi wr) (hB : B ≤ Bn) (hk : Kp n₀ bO B wr w') : Itv n₀ bO Bn s st p n c lo hi w' := by
  refine ⟨hk.safe h.safe, fun e => ?_, (hk.same h.safe Bn _ _ _ hB (by decide) h.nrow h.blk).trans h.blk, h.lie.low hk.below h.own, h.own, Nat.lt_of_lt_of_le h.bo hk.below.size, Nat.le_trans h.le hk.below.size⟩
  rcases hk.row h.safe Bn e with h1 | h1
  · exact h.nrow h1
  · have := (Array.getElem?_eq_some_iff.1 h.blk).1; omega
theorem Itv.cells {n₀ bO Bn : Nat} {s st : Int} {p : Option Addr} {n c : Nat} {lo hi : Nat → Int} {wr : World} (h : Itv n₀ bO Bn s st p n c lo hi wr) : Cel wr Bn 0 (.int .i64 s) ∧ Cel wr Bn 1 (.int .i64 st) ∧ Cel wr Bn 2 (.slice p n c) := by
  have h1 : ∀ o, wr.cell? ⟨Bn, o, none⟩ = (#[.int .i64 s, .int .i64 st, .slice p n c] : Array Value)[o]? := fun o => by simp [World.cell?, h.blk]
  have h2 : ∀ o, wr.frozen? ⟨Bn, o, none⟩ = false := fun o => by simp [World.frozen?, h.blk]
  exact ⟨⟨h1 0, h2 0⟩, ⟨h1 1, h2 1⟩, ⟨h1 2, h2 2⟩⟩
/-- A block that the iterator has laid lies on through a round. -/
theorem Kp.blk {n₀ bO B : Nat} {wr w2 w3 : World} {X : Nat} {c : Array Value} {t : TypeId} {f : Nat × Nat} (hs : Safe bO wr) (hb : bO < wr.heap.size) (h2 : Below wr.heap.size wr w2) (hk : Kp n₀ bO B w2 w3) (hB : B ≤ X) (hX : wr.heap.size ≤ X) (ht : t ≠ 62)
    (h : w2.heap[X]? = some (.cells c t f)) : w3.heap[X]? = some (.cells c t f) := by
  have hr := rowAt_below h2 hb
  have hs2 : Safe bO w2 := fun k hk => by rw [hr] at hk; exact Nat.lt_of_lt_of_le (hs k hk) h2.size
  refine (hk.same hs2 X c t f hB ht (fun e => ?_) h).trans h
  rw [hr] at e; have := hs X e; omega
theorem Kp.cel {n₀ bO B : Nat} {wr w2 w3 : World} {X o : Nat} {v : Value} {c : Array Value} {t : TypeId} {f : Nat × Nat} (hs : Safe bO wr) (hb : bO < wr.heap.size) (h2 : Below wr.heap.size wr w2) (hk : Kp n₀ bO B w2 w3) (hB : B ≤ X) (hX : wr.heap.size ≤ X) (ht : t ≠ 62)
    (hc : w2.heap[X]? = some (.cells c t f)) (h : Cel w2 X o v) : Cel w3 X o v := by
  have h3 := Kp.blk hs hb h2 hk hB hX ht hc
  exact ⟨(World.cell?_of_block (h3.trans hc.symm)).trans h.1, (World.frozen?_of_block (h3.trans hc.symm)).trans h.2⟩
theorem join_hv {a b c d : Int} (w : World) (h1 : -100000 ≤ a ∧ a ≤ b ∧ b ≤ 100000) (h2 : -100000 ≤ c ∧ c ≤ d ∧ d ≤ 100000) : Calls Try.prog 34 #[sp a b, sp c d] w fun e w' => e = .returned (se (min a c) (max b d) 0) ∧ Below w.heap.size w w' := by
  have e1 : sv a b = true := sv_t (by omega)
  have e2 : sv c d = true := sv_t (by omega)
  have h := join_any a b c d w
  simp only [jL, jH, jE, e1, e2, Bool.and_self, cond_true] at h
  exact h
theorem rjoin_hv {a b c d : Int} (w : World) (h1 : -100000 ≤ a ∧ a ≤ b ∧ b ≤ 100000) (h2 : -100000 ≤ c ∧ c ≤ d ∧ d ≤ 100000) : Calls Try.prog 45 #[sp a b, sp c d] w fun e w' => e = .returned (se (min a c) (max b d) 0) ∧ Below w.heap.size w w' := by
  have e1 : sv a b = true := sv_t (by omega)
  have e2 : sv c d = true := sv_t (by omega)
  have h := rjoin_any a b c d w
  simp only [jL, jH, jE, e1, e2, Bool.and_self, cond_true] at h
  exact h

end Go.Proofs.Ytmljnelmnagfoaa
