/- The shapes of the arguments. -/
import Derived.Test.YtmljnelmnagfoaaRows
import Derived.Test.YtmljnelmnagfoaaA
import Derived.WalkKit
import Derived.ProofKit
import Derived.Lib.SmallJoins
import Derived.Deep.Strs
import Derived.Deep.SlicePairs
set_option linter.unusedVariables false
set_option linter.unusedSimpArgs false
namespace Go.Proofs.Ytmljnelmnagfoaa
open Go.ChangeShapes Go.WideShapes Go.ChangeAt Go.RowKit Go.Joins Go.Deep
section
variable {H : Type} {enc : TypeId × Value → H} {w : World} {base : Nat} {spare : Nat → Bool} {held : Bool} {r : Reach} {b0 : Nat} {v : Value} {d : DataW H} {p : List MemPlace}
theorem open_i (hv : Value.okWide Try.prog w r b0 3 v) (h : DataW.Trod enc Try.prog w base spare held 3 v d p) : ∃ x : Int, v = .int .i64 x ∧ (Lit.int .i64 x).wf = true := by
  obtain ⟨x, hx, _, _, wx⟩ := open_int Try.underlying3 hv h
  exact ⟨x, hx, wx⟩
theorem cells30 : Try.prog.cellsOf 30 = 2 := by kernel_rfl
theorem cells24 : Try.prog.cellsOf 24 = 3 := by kernel_rfl
theorem cells22 : Try.prog.cellsOf 22 = 1 := by kernel_rfl
theorem cells3 : Try.prog.cellsOf 3 = 1 := by kernel_rfl
theorem open_span (hv : Value.okWide Try.prog w r b0 30 v) (h : DataW.Trod enc Try.prog w base spare held 30 v d p) : ∃ a b : Int, v = .agg #[.int .i64 a, .int .i64 b] := by
  obtain ⟨cs, rfl, hsz⟩ := okWide_struct Try.underlying30 hv
  obtain ⟨c0, c1, rfl⟩ := array2 (hsz.trans cells30)
  obtain ⟨fuel, hf⟩ := h
  obtain ⟨y0, y1, n, _, _, h0, h1⟩ := trod_struct2 Try.underlying30 hf
  simp [Value.cells, cells3] at h0 h1
  obtain ⟨a, e0, _, _⟩ := DataW.trod_int Try.underlying3 h0
  obtain ⟨b, e1, _, _⟩ := DataW.trod_int Try.underlying3 h1
  simp at e0 e1
  exact ⟨a, b, by rw [e0, e1]⟩
theorem open_list {c : Value} {n : Nat} {y : DataW H × List MemPlace} (h : DataW.trod enc Try.prog w base spare held n 22 [c] = some y) : ∃ (q : Option Addr) (k cap : Nat) (lo hi : Nat → Int), c = .slice q k cap ∧ Lie w q k lo hi := by
  rcases open_slice_pairs Try.underlying22 Try.underlying30 cells30 rfl rfl cells3 cells3 h with ⟨e, _⟩ | ⟨a, len, cap, m, n, V0, V1, D0, D1, P0, P1, e, hb, hl, hm, hmm, _, hx⟩
  · simp at e; subst e
    exact ⟨none, 0, 0, fun _ => 0, fun _ => 0, rfl, Or.inl rfl⟩
  · simp at e
    have hlm : len ≤ m := by rw [hmm]; split <;> omega
    have iv : ∀ i, i < m → ∃ z : Int × Int, V0 i = .int .i64 z.1 ∧ V1 i = .int .i64 z.2 := fun i hi' => by
      obtain ⟨_, _, h0, h1⟩ := hx i hi'
      obtain ⟨a0, e0, _, _⟩ := DataW.trod_int Try.underlying3 h0
      obtain ⟨a1, e1, _, _⟩ := DataW.trod_int Try.underlying3 h1
      simp at e0 e1
      exact ⟨(a0, a1), e0, e1⟩
    obtain ⟨Z, hZ⟩ := choose_lt iv
    refine ⟨some a, len, cap, fun i => (Z i).1, fun i => (Z i).2, e, ?_⟩
    rcases Nat.eq_zero_or_pos len with h0 | hpos
    · exact Or.inl h0
    · obtain ⟨ab, ao, sub⟩ := a
      have hs : sub = none := by
        cases sub with
        | none => rfl
        | some x =>
          exfalso
          have := (hx 0 (by omega)).1
          simp [Addr.add, World.cell?] at this
          split at this <;> simp at this
      subst hs
      have ad : ∀ j, (⟨ab, ao, none⟩ : Addr).add j = ⟨ab, ao + j, none⟩ := fun j => by (simp [Addr.add]; try omega)
      refine Or.inr ⟨ab, ao, rfl, fun i hi' => ?_⟩
      obtain ⟨g0, g1, _, _⟩ := hx i (by omega)
      obtain ⟨z0, z1⟩ := hZ i (by omega)
      rw [ad, z0] at g0
      rw [ad, z1] at g1
      exact ⟨g0, g1⟩
theorem open_tide (hv : Value.okWide Try.prog w r b0 24 v) (h : DataW.Trod enc Try.prog w base spare held 24 v d p) : ∃ (s st : Int) (q : Option Addr) (k cap : Nat) (lo hi : Nat → Int), v = tv s st q k cap ∧ Lie w q k lo hi := by
  obtain ⟨cs, rfl, hsz⟩ := okWide_struct Try.underlying24 hv
  obtain ⟨c0, c1, c2, rfl⟩ := array3 (hsz.trans cells24)
  obtain ⟨fuel, hf⟩ := h
  obtain ⟨y0, y1, y2, n, _, _, h0, h1, h2⟩ := trod_struct3 Try.underlying24 hf
  simp [Value.cells, cells3, cells22] at h0 h1 h2
  obtain ⟨a, e0, _, _⟩ := DataW.trod_int Try.underlying3 h0
  obtain ⟨b, e1, _, _⟩ := DataW.trod_int Try.underlying3 h1
  obtain ⟨q, k, cap, lo, hi, e2, hl⟩ := open_list h2
  simp at e0 e1
  exact ⟨a, b, q, k, cap, lo, hi, by rw [e0, e1, e2], hl⟩
end
end Go.Proofs.Ytmljnelmnagfoaa
