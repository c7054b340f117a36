/- The shapes of the arguments, by value. -/
import Derived.Test.YthfnmooeijneoaaRows
import Derived.Test.YthfnmooeijneoaaA
import Derived.Test.YthfnmooeijneoaaD
import Derived.WalkKit
import Derived.ProofKit
import Derived.Lib.SmallJoins
import Derived.Deep.Strs
import Derived.Deep.SlicePairs
set_option linter.unusedVariables false
set_option linter.unusedSimpArgs false
namespace Go.Proofs.Ythfnmooeijneoaa
open Go.ChangeShapes Go.WideShapes Go.ChangeAt Go.RowKit Go.Joins Go.Deep Go.Sea
theorem cells31 : Try.prog.cellsOf 31 = 2 := by kernel_rfl
theorem cells24 : Try.prog.cellsOf 24 = 3 := by kernel_rfl
theorem cells45 : Try.prog.cellsOf 45 = 3 := by kernel_rfl
theorem cells22 : Try.prog.cellsOf 22 = 1 := by kernel_rfl
theorem cells43 : Try.prog.cellsOf 43 = 1 := by kernel_rfl
theorem cells3 : Try.prog.cellsOf 3 = 1 := by kernel_rfl
theorem rd_int {w : World} {Z : Nat → Prop} {v : Value} {k : IntKind} {a : Int} (h : Rd w Z v (.g (.int k a))) : v = .int k a := by cases h; rfl
theorem rd_g {w : World} {Z : Nat → Prop} {v u : Value} (h : Rd w Z v (.g u)) : v = u := by cases h; rfl
abbrev Zw (w : World) : Nat → Prop := fun b => b < w.heap.size
section
variable {H : Type} {enc : TypeId × Value → H} {w : World} {base : Nat} {spare : Nat → Bool} {held : Bool} {r : Reach} {b0 : Nat} {v : Value} {d : DataW H} {p : List MemPlace}
theorem spot_none {a : Addr} {j : Nat} {x : Value} (h : w.cell? (a.add j) = some x) (h0 : j = 0 ∨ a.spot = none) : a.spot = none := by
  rcases h0 with rfl | h0
  · obtain ⟨ab, ao, sub⟩ := a
    cases sub with
    | none => rfl
    | some y =>
      exfalso
      simp [Addr.add, World.cell?] at h
      split at h <;> simp at h
  · exact h0
theorem open_listR {c : Value} {n : Nat} {y : DataW H × List MemPlace} (h : DataW.trod enc Try.prog w base spare held n 22 [c] = some y) : ∃ (k : Nat) (lo hi : Nat → Int), Rd w (Zw w) c (.lst 2 k (spanF lo hi)) := by
  rcases open_slice_pairs Try.underlying22 Try.underlying31 cells31 rfl rfl cells3 cells3 h with ⟨e, _⟩ | ⟨a, len, cap, m, n, V0, V1, D0, D1, P0, P1, e, hb, hl, hm, hmm, _, hx⟩
  · simp at e; subst e
    exact ⟨0, fun _ => 0, fun _ => 0, .nil _ _ _ _⟩
  · simp at e
    subst e
    have hlm : len ≤ m := by rw [hmm]; split <;> omega
    have iv : ∀ i, i < m → ∃ z : Int × Int, V0 i = .int .i64 z.1 ∧ V1 i = .int .i64 z.2 := fun i hi' => by
      obtain ⟨_, _, h0, h1⟩ := hx i hi'
      obtain ⟨a0, e0, _, _⟩ := DataW.trod_int Try.underlying3 h0
      obtain ⟨a1, e1, _, _⟩ := DataW.trod_int Try.underlying3 h1
      simp at e0 e1
      exact ⟨(a0, a1), e0, e1⟩
    obtain ⟨Z, hZ⟩ := choose_lt iv
    refine ⟨len, fun i => (Z i).1, fun i => (Z i).2, ?_⟩
    rcases Nat.eq_zero_or_pos len with h0 | hpos
    · subst h0; exact .nil _ _ _ _
    · have hs := spot_none (hx 0 (by omega)).1 (Or.inl (by omega))
      obtain ⟨ab, ao, sub⟩ := a
      simp only at hs
      subst hs
      have hlt : ab < w.heap.size := World.block_lt_of_cell? w _ (hx 0 (by omega)).1
      refine .lst ab ao len cap 2 _ (fun i o => match o with | 0 => V0 i | _ => V1 i) hlt hl hm (fun i o hi' ho => ?_) fun i o hi' ho => ?_
      · obtain ⟨g0, g1, _, _⟩ := hx i (by omega)
        rw [Addr.add_lit] at g0 g1
        match o, ho with
        | 0, _ => exact g0
        | 1, _ => exact g1
      · obtain ⟨z0, z1⟩ := hZ i (by omega)
        match o, ho with
        | 0, _ => show Rd w _ (V0 i) _; rw [z0]; exact .g _ rfl
        | 1, _ => show Rd w _ (V1 i) _; rw [z1]; exact .g _ rfl
theorem open_sq {c : Value} {n : Nat} {y : DataW H × List MemPlace} (h : DataW.trod enc Try.prog w base spare held n 43 [c] = some y) : ∃ (k : Nat) (f : Nat → Int), Rd w (Zw w) c (.lst 1 k (sqF f)) := by
  rcases open_ints (k := .i64) Try.underlying43 Try.underlying3 (by kernel_rfl) h with ⟨e, _⟩ | ⟨a, len, cap, zs, e, hb, hl, hm, hlen, _, hc, hw⟩
  · simp at e; subst e
    exact ⟨0, fun _ => 0, .nil _ _ _ _⟩
  · simp at e
    subst e
    have hlz : len ≤ zs.length := by rw [hlen]; split <;> omega
    refine ⟨len, fun i => zs.getD i 0, ?_⟩
    · rcases Nat.eq_zero_or_pos len with h0 | hpos
      · subst h0; exact .nil _ _ _ _
      · have hs := spot_none (j := 0) (hc 0 (by omega)) (Or.inl rfl)
        obtain ⟨ab, ao, sub⟩ := a
        simp only at hs
        subst hs
        have hlt : ab < w.heap.size := World.block_lt_of_cell? w _ (by have := hc 0 (by omega); rwa [Addr.add_lit] at this)
        refine .lst ab ao len cap 1 _ (fun i o => .int .i64 (zs.getD i 0)) hlt hl hm (fun i o hi' ho => ?_) fun i o hi' ho => .g _ rfl
        have := hc i (by omega)
        rw [Addr.add_lit] at this
        rw [show o = 0 by omega, Nat.mul_one, Nat.add_zero]
        exact this
theorem open_tideR (hv : Value.okWide Try.prog w r b0 24 v) (h : DataW.Trod enc Try.prog w base spare held 24 v d p) : ∃ (s st : Int) (k : Nat) (lo hi : Nat → Int), PTRel w (Zw w) v (tideP s st k lo hi) := by
  obtain ⟨cs, rfl, hsz⟩ := okWide_struct Try.underlying24 hv
  obtain ⟨c0, c1, c2, rfl⟩ := array3 (hsz.trans cells24)
  obtain ⟨fuel, hf⟩ := h
  obtain ⟨y0, y1, y2, n, _, _, h0, h1, h2⟩ := trod_struct3 Try.underlying24 hf
  simp [Value.cells, cells3, cells22] at h0 h1 h2
  obtain ⟨a, e0, _, _⟩ := DataW.trod_int Try.underlying3 h0
  obtain ⟨b, e1, _, _⟩ := DataW.trod_int Try.underlying3 h1
  obtain ⟨k, lo, hi, e2⟩ := open_listR h2
  simp at e0 e1
  subst e0 e1
  exact ⟨a, b, k, lo, hi, _, rfl, .g _ rfl, .g _ rfl, e2, trivial⟩
theorem open_shipR (hv : Value.okWide Try.prog w r b0 45 v) (h : DataW.Trod enc Try.prog w base spare held 45 v d p) : ∃ (s st : Int) (k : Nat) (sq : Nat → Int), PTRel w (Zw w) v (shipP s st k sq) := by
  obtain ⟨cs, rfl, hsz⟩ := okWide_struct Try.underlying45 hv
  obtain ⟨c0, c1, c2, rfl⟩ := array3 (hsz.trans cells45)
  obtain ⟨fuel, hf⟩ := h
  obtain ⟨y0, y1, y2, n, _, _, h0, h1, h2⟩ := trod_struct3 Try.underlying45 hf
  simp [Value.cells, cells3, cells43] at h0 h1 h2
  obtain ⟨a, e0, _, _⟩ := DataW.trod_int Try.underlying3 h0
  obtain ⟨b, e1, _, _⟩ := DataW.trod_int Try.underlying3 h1
  obtain ⟨k, sq, e2⟩ := open_sq h2
  simp at e0 e1
  subst e0 e1
  exact ⟨a, b, k, sq, _, rfl, .g _ rfl, .g _ rfl, e2, trivial⟩
theorem span_cellsR {n : Nat} {c0 c1 : Value} {y : DataW H × List MemPlace} (h : DataW.trod enc Try.prog w base spare held n 31 [c0, c1] = some y) : ∃ a b : Int, c0 = .int .i64 a ∧ c1 = .int .i64 b := by
  obtain ⟨y0, y1, n, _, _, h0, h1⟩ := trod_struct2 Try.underlying31 h
  simp [cells3] at h0 h1
  obtain ⟨a, e0, _, _⟩ := DataW.trod_int Try.underlying3 h0
  obtain ⟨b, e1, _, _⟩ := DataW.trod_int Try.underlying3 h1
  simp at e0 e1
  exact ⟨a, b, e0, e1⟩
theorem open_span (hv : Value.okWide Try.prog w r b0 31 v) (h : DataW.Trod enc Try.prog w base spare held 31 v d p) : ∃ a b : Int, v = .agg #[.int .i64 a, .int .i64 b] := by
  obtain ⟨cs, rfl, hsz⟩ := okWide_struct Try.underlying31 hv
  obtain ⟨c0, c1, rfl⟩ := array2 (hsz.trans cells31)
  obtain ⟨fuel, hf⟩ := h
  obtain ⟨a, b, rfl, rfl⟩ := span_cellsR (by simpa [Value.cells] using hf)
  exact ⟨a, b, rfl⟩
theorem open_i (hv : Value.okWide Try.prog w r b0 3 v) (h : DataW.Trod enc Try.prog w base spare held 3 v d p) : ∃ x : Int, v = .int .i64 x ∧ (Lit.int .i64 x).wf = true := by
  obtain ⟨x, hx, _, _, wx⟩ := open_int Try.underlying3 hv h
  exact ⟨x, hx, wx⟩
theorem open_u16i (hv : Value.okWide Try.prog w r b0 57 v) (h : DataW.Trod enc Try.prog w base spare held 57 v d p) : ∃ x : Int, v = .int .u16 x ∧ (0 ≤ x ∧ x ≤ 65535) := by
  obtain ⟨x, hx, _, _, wx⟩ := open_int Try.underlying57 hv h
  refine ⟨x, hx, ?_⟩
  simp [Lit.wf, IntKind.min, IntKind.max, IntKind.signed, IntKind.bits] at wx
  omega
theorem ship_len {w : World} {Z : Nat → Prop} {v : Value} {dd m : Int} {q : Nat} {sq : Nat → Int} (h : PTRel w Z v (shipP dd m q sq)) : q ≤ 9223372036854775807 := by
  obtain ⟨A, rfl, h⟩ := h
  obtain ⟨l⟩ := A
  match l, h with
  | [x, y, z], ⟨_, _, h3, _⟩ =>
    cases h3 with
    | nil => omega
    | lst b off n cap E f X hz hn hm h1 h2 => unfold maxLen at hm; omega
end

end Go.Proofs.Ythfnmooeijneoaa
