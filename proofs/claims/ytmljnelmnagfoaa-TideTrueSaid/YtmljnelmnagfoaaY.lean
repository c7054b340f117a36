/- Tide: Height and Windows, told for every input; Next. -/
import Derived.Test.YtmljnelmnagfoaaQ
import Derived.Test.YtmljnelmnagfoaaW2
import Derived.OwnWalk
set_option linter.unusedVariables false
set_option linter.unusedSimpArgs false
namespace Go.Proofs.Ytmljnelmnagfoaa
open Go.RowKit
attribute [local go_sem] World.cell?_alloc_some frozen_alloc_some isSome_alloc isSome_setCell

def HE (s st : Int) (n : Nat) (lo hi : Nat → Int) (f u : Int) : Int :=
  if tval s st n lo hi = true ∧ tm f = true ∧ tm u = true ∧ f ≤ u then (if s ≤ f ∧ u ≤ s + ((n : Int) - 1) * st then 0 else 4) else 1
def HL (s st : Int) (n : Nat) (lo hi : Nat → Int) (f u : Int) : Int := if HE s st n lo hi f u = 0 then oL (fo f u (strs s st lo hi n)) else 0
def HH (s st : Int) (n : Nat) (lo hi : Nat → Int) (f u : Int) : Int := if HE s st n lo hi f u = 0 then oH (fo f u (strs s st lo hi n)) else 0
theorem height_any (s st : Int) (p : Option Addr) (n c : Nat) (lo hi : Nat → Int) (f u : Int) (w : World) (hL : Lie w p n lo hi) :
    Calls Try.prog 15 #[tv s st p n c, .int .i64 f, .int .i64 u] w fun e w' => e = .returned (se (HL s st n lo hi f u) (HH s st n lo hi f u) (HE s st n lo hi f u)) ∧ Below w.heap.size w w' := by
  by_cases g : tval s st n lo hi = true ∧ tm f = true ∧ tm u = true ∧ f ≤ u
  · obtain ⟨g1, g2, g3, g4⟩ := g
    have hp : ∀ a, p = some a → a.block < w.heap.size := by
      rcases hL with h | ⟨b, off, rfl, hc⟩
      · have := (tval_tv g1).n0; omega
      · intro a ha; cases ha
        exact World.block_lt_of_cell? w _ (hc 0 (by have := (tval_tv g1).n0; omega)).1
    by_cases k1 : f < s
    · have e : HE s st n lo hi f u = 4 := by rw [HE, if_pos ⟨g1, g2, g3, g4⟩, if_neg (by omega)]
      rw [HL, HH, e]; exact height_b4 s st p n c lo hi f u w hL g1 g2 g3 (by omega) k1
    by_cases k2 : s + ((n : Int) - 1) * st < u
    · have e : HE s st n lo hi f u = 4 := by rw [HE, if_pos ⟨g1, g2, g3, g4⟩, if_neg (by omega)]
      rw [HL, HH, e]; exact height_b5 s st p n c lo hi f u w hL g1 g2 g3 (by omega) k1 k2
    have e : HE s st n lo hi f u = 0 := by rw [HE, if_pos ⟨g1, g2, g3, g4⟩, if_pos (by omega)]
    rw [HL, HH, e]; exact height_ok s st p n c lo hi f u w hL hp g1 g2 g3 (by omega) k1 k2
  · have e : HE s st n lo hi f u = 1 := by rw [HE, if_neg g]
    rw [HL, HH, e]
    cases h1 : tval s st n lo hi with
    | false => exact height_b0 s st p n c lo hi f u w hL h1
    | true => cases h2 : tm f with
      | false => exact height_b1 s st p n c lo hi f u w hL h1 h2
      | true => cases h3 : tm u with
        | false => exact height_b2 s st p n c lo hi f u w hL h1 h2 h3
        | true => exact height_b3 s st p n c lo hi f u w hL h1 h2 h3 (by have : ¬ f ≤ u := fun h => g ⟨h1, h2, h3, h⟩; omega)
def nd (need : Int) : Bool := decide (-1000000000000 ≤ need ∧ need ≤ 1000000000000)
def WE (s st : Int) (n : Nat) (lo hi : Nat → Int) (need : Int) : Int := bif tval s st n lo hi && nd need then 0 else 1
def WS (s st : Int) (n : Nat) (lo hi : Nat → Int) (need : Int) : List (Int × Int) := bif tval s st n lo hi && nd need then win need (strs s st lo hi n) else []
theorem windows_any (s st : Int) (p : Option Addr) (n c : Nat) (lo hi : Nat → Int) (need : Int) (w : World) (hL : Lie w p n lo hi) :
    Calls Try.prog 17 #[tv s st p n c, .int .i64 need] w fun e w' => (∃ p' c', e = .returned (.tuple #[.slice p' (WS s st n lo hi need).length c', .int .i64 (WE s st n lo hi need)]) ∧ Lie w' p' (WS s st n lo hi need).length (L1 (WS s st n lo hi need)) (L2 (WS s st n lo hi need))) ∧ Below w.heap.size w w' := by
  cases h : (tval s st n lo hi && nd need) with
  | true =>
    rw [WS, WE, h]
    obtain ⟨h1, h2⟩ := Bool.and_eq_true_iff.1 h
    have h3 : -1000000000000 ≤ need ∧ need ≤ 1000000000000 := of_decide_eq_true h2
    exact windows_ok s st p n c lo hi need w hL h1 (by omega) (by omega)
  | false =>
    rw [WS, WE, h]
    have bad : ∀ (e : Ending) (w' : World), (e = .returned (.tuple #[.slice none 0 0, .int .i64 1]) ∧ Below w.heap.size w w') → (∃ p' c', e = .returned (.tuple #[.slice p' (List.length ([] : List (Int × Int))) c', .int .i64 1]) ∧ Lie w' p' (List.length ([] : List (Int × Int))) (L1 []) (L2 [])) ∧ Below w.heap.size w w' := fun e w' ⟨h1, h2⟩ => ⟨⟨none, 0, h1, Or.inl rfl⟩, h2⟩
    cases h1 : tval s st n lo hi with
    | false => exact (windows_b0 s st p n c lo hi need w hL h1).mono bad
    | true =>
      rw [h1, Bool.true_and] at h
      have h3 : ¬ (-1000000000000 ≤ need ∧ need ≤ 1000000000000) := of_decide_eq_false h
      by_cases k1 : need < -1000000000000
      · exact (windows_b1 s st p n c lo hi need w hL h1 k1).mono bad
      · exact (windows_b2 s st p n c lo hi need w hL h1 k1 (by omega)).mono bad
def nxC (lo hi : Nat → Int) (f long : Int) (i : Nat) : Bool := decide (max (lo i) f ≤ hi i - long)
def nxO (n : Nat) (lo hi : Nat → Int) (f long : Int) : Option Nat := (List.range n).find? (nxC lo hi f long)
theorem nxO_hit {n k : Nat} {lo hi : Nat → Int} {f long : Int} (h1 : ∀ j, j < k → nxC lo hi f long j = false) (hk : k < n) (h2 : nxC lo hi f long k = true) : nxO n lo hi f long = some k := by
  rw [nxO, List.find?_range_eq_some]; exact ⟨h2, by simpa using hk, fun j hj => by simp [h1 j hj]⟩
theorem nxO_none {n : Nat} {lo hi : Nat → Int} {f long : Int} (h1 : ∀ j, j < n → nxC lo hi f long j = false) : nxO n lo hi f long = none := by
  rw [nxO, List.find?_range_eq_none]; intro j hj; simp [h1 j hj]
/-- The windows' ends are times. -/
theorem run_ok {hl hh : Int → Int} {a b : Int} {l : List Q4} (h : Run hl hh a b l) (ha : 0 ≤ a) (hb : b ≤ 10000001) (need : Int) : okW (win need l) := by
  induction h with
  | nil => intro q hq; cases hq
  | @snoc b l x h e1 e2 e3 ih =>
    have hab := h.le
    have i := ih (by omega)
    obtain ⟨xa, xc, xl, xh⟩ := x
    simp only at e1 e2 hb
    rw [win_snoc]
    by_cases k : xl < need
    · rw [addW_skip k]; exact i
    · generalize win need l = ws at *
      rcases List.eq_nil_or_concat ws with rfl | ⟨f, ⟨l1, l2⟩, rfl⟩
      · rw [addW_nil k]; intro q hq; simp at hq; subst hq; exact ⟨by simp only; omega, e2, by simp only; omega⟩
      · rw [List.concat_eq_append] at *
        by_cases k2 : l2 + 1 = xa
        · rw [addW_ext k k2]
          intro q hq
          rcases List.mem_append.1 hq with hq | hq
          · exact i q (List.mem_append_left _ hq)
          · simp at hq; subst hq
            have := i (l1, l2) (by simp)
            simp only at this ⊢; omega
        · rw [addW_new k k2]
          intro q hq
          rcases List.mem_append.1 hq with hq | hq
          · exact i q hq
          · simp at hq; subst hq; exact ⟨by simp only; omega, e2, by simp only; omega⟩
theorem strs_run' {s st : Int} {n : Nat} {lo hi : Nat → Int} (h : Tv s st n lo hi) : Run (hL s st lo) (hH s st hi) s (s + ((n : Int) - 1) * st + 1) (strs s st lo hi n) := by
  have h0 := h.n0
  obtain ⟨k, rfl⟩ : ∃ k, n = k + 1 := ⟨n - 1, by omega⟩
  have := strs_run (s := s) lo hi h.st0 k
  rw [show (((k + 1 : Nat) : Int) - 1) = (k : Int) by omega]
  exact this
theorem ws_ok (s st : Int) (n : Nat) (lo hi : Nat → Int) (need : Int) : okW (WS s st n lo hi need) ∧ (WS s st n lo hi need).length ≤ 400 := by
  unfold WS
  cases h : (tval s st n lo hi && nd need) with
  | false => exact ⟨fun q hq => (by cases hq), Nat.zero_le _⟩
  | true =>
    have hv := tval_tv (Bool.and_eq_true_iff.1 h).1
    have hr := strs_run' hv
    refine ⟨run_ok hr hv.s0 (by have := hv.last; omega) need, ?_⟩
    have hl : ∀ l : List Q4, (win need l).length ≤ l.length := by
      intro l
      have : ∀ l : List Q4, ∀ acc : List (Int × Int), (l.foldl (addW need) acc).length ≤ acc.length + l.length := by
        intro l
        induction l with
        | nil => intro acc; simp
        | cons x l ih => intro acc; have := ih (addW need acc x); have := addW_len need acc x; simp only [List.foldl_cons, List.length_cons]; omega
      simpa [win] using this l []
    have := hl (strs s st lo hi n)
    have := strs_len s st lo hi n
    have := hv.n1
    simp only [cond_true]; omega
theorem ws_at {ws : List (Int × Int)} (h : okW ws) {i : Nat} (hi : i < ws.length) : 0 ≤ L1 ws i ∧ L1 ws i ≤ L2 ws i ∧ L2 ws i ≤ 10000000 := by
  have e : ws[i]? = some ws[i] := List.getElem?_eq_getElem hi
  unfold L1 L2
  rw [e]
  exact h _ (List.getElem_mem hi)

end Go.Proofs.Ytmljnelmnagfoaa
