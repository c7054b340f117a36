/- Tide: the examples of the chapter, reckoned. -/
import Derived.Test.YtmljnelmnagfoaaZ
import Derived.Test.YtmljnelmnagfoaaS
set_option linter.unusedVariables false
set_option linter.unusedSimpArgs false
namespace Go.Proofs.Ytmljnelmnagfoaa
open Go.RowKit
def U1 : Nat → Int := L1 [(6, 9), (12, 13), (0, 8)]
def U2 : Nat → Int := L2 [(6, 9), (12, 13), (0, 8)]
theorem x_t : tval 100 10 3 T1 T2 = true := by decide
theorem x_u : tval 100 10 3 U1 U2 = true := by decide
theorem x_z (lo hi : Nat → Int) : tval 0 0 0 lo hi = false := by simp [tval]
theorem x_h1 : HL 100 10 3 T1 T2 100 100 = 5 ∧ HH 100 10 3 T1 T2 100 100 = 7 ∧ HE 100 10 3 T1 T2 100 100 = 0 := by decide
theorem x_h2 : HL 100 10 3 T1 T2 101 101 = 5 ∧ HH 100 10 3 T1 T2 101 101 = 12 ∧ HE 100 10 3 T1 T2 101 101 = 0 := by decide
theorem x_h3 : HL 100 10 3 T1 T2 100 120 = 5 ∧ HH 100 10 3 T1 T2 100 120 = 12 ∧ HE 100 10 3 T1 T2 100 120 = 0 := by decide
theorem x_w1 : WS 100 10 3 T1 T2 8 = [(110, 120)] ∧ WE 100 10 3 T1 T2 8 = 0 := by decide
theorem x_w2 : WS 100 10 3 T1 T2 9 = [(110, 110)] ∧ WE 100 10 3 T1 T2 9 = 0 := by decide
theorem x_w3 : WS 100 10 3 T1 T2 6 = [(110, 120)] ∧ WE 100 10 3 T1 T2 6 = 0 := by decide
theorem x_n1 : NV 100 10 3 T1 T2 8 100 10 = 110 ∧ NE 100 10 3 T1 T2 8 100 10 = 0 := by decide
theorem x_n2 : NV 100 10 3 T1 T2 8 100 11 = 0 ∧ NE 100 10 3 T1 T2 8 100 11 = 4 := by decide
theorem x_m : ∀ i, i < 3 → mE (T1 i) (T2 i) (U1 i) (U2 i) = 0 := by decide
theorem x_ms : sameL 3 3 (fun i => mL (T1 i) (T2 i) (U1 i) (U2 i)) (fun i => mH (T1 i) (T2 i) (U1 i) (U2 i)) (L1 [(6, 7), (12, 12), (8, 8)]) (L2 [(6, 7), (12, 12), (8, 8)]) = true := by decide
theorem x_s : ∀ i, i < 3 → aE (T1 i) (T2 i) (-1) 1 = 0 ∧ hv (aL (T1 i) (T2 i) (-1) 1) (aH (T1 i) (T2 i) (-1) 1) = true := by decide
theorem x_ss : sameL 3 3 (fun i => aL (T1 i) (T2 i) (-1) 1) (fun i => aH (T1 i) (T2 i) (-1) 1) (L1 [(4, 8), (8, 13), (7, 9)]) (L2 [(4, 8), (8, 13), (7, 9)]) = true := by decide
theorem x_1 : sameL 1 1 (L1 [(110, 120)]) (L2 [(110, 120)]) (L1 [(110, 120)]) (L2 [(110, 120)]) = true := by decide
theorem x_2 : sameL 1 1 (L1 [(110, 110)]) (L2 [(110, 110)]) (L1 [(110, 110)]) (L2 [(110, 110)]) = true := by decide
theorem lie_1 {W : World} {b : Nat} {x y : Int} (h0 : Cel W b 0 (.int .i64 x)) (h1 : Cel W b 1 (.int .i64 y)) : Lie W (some ⟨b, 0, none⟩) 1 (L1 [(x, y)]) (L2 [(x, y)]) :=
  Or.inr ⟨b, 0, rfl, fun i hi => by obtain rfl : i = 0 := by omega
                                    exact ⟨h0.1, h1.1⟩⟩
theorem lie_3 {W : World} {b : Nat} {x y x' y' x2 y2 : Int} (h0 : Cel W b 0 (.int .i64 x)) (h1 : Cel W b 1 (.int .i64 y)) (h2 : Cel W b 2 (.int .i64 x')) (h3 : Cel W b 3 (.int .i64 y')) (h4 : Cel W b 4 (.int .i64 x2)) (h5 : Cel W b 5 (.int .i64 y2)) :
    Lie W (some ⟨b, 0, none⟩) 3 (L1 [(x, y), (x', y'), (x2, y2)]) (L2 [(x, y), (x', y'), (x2, y2)]) :=
  Or.inr ⟨b, 0, rfl, fun i hi => by
    obtain rfl | rfl | rfl : i = 0 ∨ i = 1 ∨ i = 2 := by omega
    · exact ⟨h0.1, h1.1⟩
    · exact ⟨h2.1, h3.1⟩
    · exact ⟨h4.1, h5.1⟩⟩
theorem c_h {p : Option Addr} {c : Nat} {f u a b k : Int} {w : World} (hL : Lie w p 3 T1 T2) (h : HL 100 10 3 T1 T2 f u = a ∧ HH 100 10 3 T1 T2 f u = b ∧ HE 100 10 3 T1 T2 f u = k) :
    Calls Try.prog 15 #[tv 100 10 p 3 c, .int .i64 f, .int .i64 u] w fun e w' => e = .returned (se a b k) ∧ Below w.heap.size w w' := by
  have := height_any 100 10 p 3 c T1 T2 f u w hL
  rw [h.1, h.2.1, h.2.2] at this; exact this
theorem c_w {p : Option Addr} {c n : Nat} {need k : Int} {ws : List (Int × Int)} {w : World} (hL : Lie w p 3 T1 T2) (h : WS 100 10 3 T1 T2 need = ws ∧ WE 100 10 3 T1 T2 need = k) (hn : ws.length = n) :
    Calls Try.prog 17 #[tv 100 10 p 3 c, .int .i64 need] w fun e w' => (∃ p' c', e = .returned (.tuple #[.slice p' n c', .int .i64 k]) ∧ Lie w' p' n (L1 ws) (L2 ws)) ∧ Below w.heap.size w w' := by
  have := windows_any 100 10 p 3 c T1 T2 need w hL
  rw [h.1, h.2, hn] at this; exact this
theorem c_n {p : Option Addr} {c : Nat} {need f long v k : Int} {w : World} (hL : Lie w p 3 T1 T2) (h : NV 100 10 3 T1 T2 need f long = v ∧ NE 100 10 3 T1 T2 need f long = k) :
    Calls Try.prog 20 #[tv 100 10 p 3 c, .int .i64 need, .int .i64 f, .int .i64 long] w fun e w' => e = .returned (.tuple #[.int .i64 v, .int .i64 k]) ∧ Below w.heap.size w w' := by
  have := next_any 100 10 p 3 c T1 T2 need f long w hL
  rw [h.1, h.2] at this; exact this
theorem c_m {p p' : Option Addr} {c c' : Nat} {w : World} (hL : Lie w p 3 T1 T2) (hL' : Lie w p' 3 U1 U2) :
    Calls Try.prog 28 #[tv 100 10 p 3 c, tv 100 10 p' 3 c'] w fun e w' => (∃ p2 c2, e = .returned (.tuple #[tv 100 10 p2 3 c2, .int .i64 0]) ∧ Lie w' p2 3 (fun i => mL (T1 i) (T2 i) (U1 i) (U2 i)) (fun i => mH (T1 i) (T2 i) (U1 i) (U2 i))) ∧ Below w.heap.size w w' := by
  refine (tmeet_OK 100 10 p 3 c T1 T2 p' c' U1 U2 w hL hL' x_t x_u).mono ?_
  rintro e w' ⟨⟨_, p2, c2, rfl, hl⟩ | ⟨⟨i, hi, hn⟩, _⟩, hb⟩
  · exact ⟨⟨p2, c2, rfl, hl.1⟩, hb⟩
  · exact absurd (x_m i hi) hn
theorem c_s {p : Option Addr} {c : Nat} {w : World} (hL : Lie w p 3 T1 T2) :
    Calls Try.prog 21 #[tv 100 10 p 3 c, sp (-1) 1] w fun e w' => (∃ p2 c2, e = .returned (.tuple #[tv 100 10 p2 3 c2, .int .i64 0]) ∧ Lie w' p2 3 (fun i => aL (T1 i) (T2 i) (-1) 1) (fun i => aH (T1 i) (T2 i) (-1) 1)) ∧ Below w.heap.size w w' := by
  refine (shift_ok 100 10 p 3 c T1 T2 (-1) 1 w hL x_t (by decide)).mono ?_
  rintro e w' ⟨⟨_, p2, c2, rfl, hl⟩ | ⟨⟨i, hi, hn⟩, _⟩, hb⟩
  · exact ⟨⟨p2, c2, rfl, hl⟩, hb⟩
  · exact absurd (x_s i hi) hn
theorem c_v {p : Option Addr} {c : Nat} {w : World} (hL : Lie w p 3 T1 T2) : Calls Try.prog 24 #[tv 100 10 p 3 c] w fun e w' => e = .returned (.bool true) ∧ Below w.heap.size w w' := by
  have := valid_any 100 10 p 3 c T1 T2 w hL
  rw [x_t] at this; exact this
theorem c_z {w : World} : Calls Try.prog 24 #[tv 0 0 none 0 0] w fun e w' => e = .returned (.bool false) ∧ Below w.heap.size w w' := by
  have := valid_any 0 0 none 0 0 T1 T2 w (Or.inl rfl)
  rw [x_z] at this; exact this
theorem c_p {p p' : Option Addr} {n n' c c' : Nat} {lo hi lo' hi' : Nat → Int} {w : World} (hn : n ≤ 1000000) (hL : Lie w p n lo hi) (hL' : Lie w p' n' lo' hi') (h : sameL n n' lo hi lo' hi' = true) :
    Calls Try.prog 22 #[.slice p n c, .slice p' n' c'] w fun e w' => e = .returned (.bool true) ∧ Below w.heap.size w w' := by
  have := spans_any p p' n n' c c' lo hi lo' hi' w hn hL hL'
  rw [h] at this; exact this
end Go.Proofs.Ytmljnelmnagfoaa
