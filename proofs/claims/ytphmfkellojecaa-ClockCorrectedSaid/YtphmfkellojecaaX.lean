/- What the callees do at a clock that was set. -/
import Derived.Test.YtphmfkellojecaaU
import Derived.Test.YtphmfkellojecaaW
set_option linter.unusedVariables false
set_option linter.unusedSimpArgs false
namespace Go.Proofs.Ytphmfkellojecaa
open Go.RowKit
attribute [local go_sem] World.cell?_alloc_some frozen_alloc_some isSome_alloc isSome_setCell

theorem set_e1 {r l u d : Int} (h : sE r l u d = 1) (w : World) : Calls Try.prog 24 #[.int .i64 r, sp l u, .int .i64 d] w fun e w' => e = .returned (.tuple #[ck 0 0 0 0, .int .i64 1]) ∧ Below w.heap.size w w' := by
  have := set_any r l u d w
  rw [h] at this; exact this
theorem set_e0 {r l u d : Int} (h : sE r l u d = 0) (w : World) : Calls Try.prog 24 #[.int .i64 r, sp l u, .int .i64 d] w fun e w' => e = .returned (.tuple #[ck r (l - r) (u - r) d, .int .i64 0]) ∧ Below w.heap.size w w' := by
  have := set_any r l u d w
  rw [h] at this; exact this
theorem true_set {r L U d : Int} (h : sE r L U d = 0) (w : World) : Calls Try.prog 14 #[ck r (L - r) (U - r) d, .int .i64 r] w fun e w' => e = .returned (.tuple #[sp L U, .int .i64 0]) ∧ Below w.heap.size w w' := by
  have := true_any r (L - r) (U - r) d r w
  obtain ⟨h1, h2, h3⟩ := p5a h
  rw [h1, h2, h3] at this; exact this
theorem valid_set {r L U d : Int} (h : sE r L U d = 0) (w : World) : Calls Try.prog 12 #[ck r (L - r) (U - r) d] w fun e w' => e = .returned (.bool true) ∧ Below w.heap.size w w' := by
  have := valid_any r (L - r) (U - r) d w
  rw [(s_ok h).2.2] at this; exact this
theorem corr_no {a l u d r m n : Int} (h : ¬ cE a l u d r m n = 0) (w : World) : Calls Try.prog 26 #[ck a l u d, .int .i64 r, sp m n] w fun e w' => e = .returned (.tuple #[ck 0 0 0 0, .int .i64 (cE a l u d r m n)]) ∧ Below w.heap.size w w' := by
  have := correct_any a l u d r m n w
  simp only [on, if_neg h] at this; exact this
theorem corr_yes {a l u d r m n L U : Int} (h : cE a l u d r m n = 0) (hL : max (tLo a l u d r) m = L) (hU : min (tHi a l u d r) n = U) (w : World) : Calls Try.prog 26 #[ck a l u d, .int .i64 r, sp m n] w fun e w' => e = .returned (.tuple #[ck r (L - r) (U - r) d, .int .i64 0]) ∧ Below w.heap.size w w' := by
  have := correct_any a l u d r m n w
  rw [h, hL, hU] at this; exact this

end Go.Proofs.Ytphmfkellojecaa
