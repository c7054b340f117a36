/- V: the shapes of the arguments, by value. -/
import Derived.Test.YtifoncmlelinjaaRows
import Derived.Test.YtifoncmlelinjaaA
import Derived.WalkKit
import Derived.ProofKit
import Derived.ChangeSame
import Derived.Lib.SmallJoins
import Derived.Deep.Strs
import Derived.Deep.SlicePairs
set_option linter.unusedVariables false
set_option linter.unusedSimpArgs false
namespace Go.Proofs.Ytifoncmlelinjaa
open Go.ChangeShapes Go.WideShapes Go.ChangeAt Go.RowKit Go.Joins Go.Deep Go.Sea
theorem rd_g {w : World} {Z : Nat → Prop} {v u : Value} (h : Rd w Z v (.g u)) : v = u := by cases h; rfl
abbrev Zw (w : World) : Nat → Prop := fun b => b < w.heap.size
section
variable {H : Type} {enc : TypeId × Value → H} {w : World} {base : Nat} {spare : Nat → Bool} {held : Bool} {r : Reach} {b0 : Nat} {v : Value} {d : DataW H} {p : List MemPlace}
theorem spot_none {a : Addr} {j : Nat} {x : Value} (h : w.cell? (a.add j) = some x) (h0 : j = 0 ∨ a.spot = none) : a.spot = none := by
  rcases h0 with rfl | h0
  · obtain ⟨ab, ao, sub⟩ := a
    cases sub with
    | none => rfl
    | some y =>
      exfalso
      simp [Addr.add, World.cell?] at h
      split at h <;> simp at h
  · exact h0
/-- A list of elements of E cells each, by value. -/
theorem rd_slice {t e : TypeId} (ht : Try.prog.underlying t = some (.slice e)) {E : Nat} (hE : Try.prog.cellsOf e = E) (h0 : 0 < E) {α : Type} [Inhabited α] (F : α → Nat → IV)
    (el : ∀ (n : Nat) (cs : List Value) (y : DataW H × List MemPlace), DataW.trod enc Try.prog w base spare held n e cs = some y → cs.length = E → ∃ z : α, ∀ (o : Nat) v, cs[o]? = some v → Rd w (Zw w) v (F z o))
    {c : Value} {n : Nat} {y : DataW H × List MemPlace} (h : DataW.trod enc Try.prog w base spare held n t [c] = some y) : ∃ (k : Nat) (Z : Nat → α), k ≤ 9223372036854775807 ∧ Rd w (Zw w) c (.lst E k fun i o => F (Z i) o) := by
  rcases open_slice ht h with ⟨e, _⟩ | ⟨a, len, cap, m, n', D, Pl, e, hb, hl, hm, hmm, _, hx⟩
  · simp at e; subst e
    exact ⟨0, fun _ => default, Nat.zero_le _, .nil _ _ _ _⟩
  · simp at e
    subst e
    rw [hE] at hx
    have hlm : len ≤ m := by rw [hmm]; split <;> omega
    have each : ∀ i, i < len → ∃ q : α × (Nat → Value), ∀ o, o < E → w.cell? (a.add (i * E + o)) = some (q.2 o) ∧ Rd w (Zw w) (q.2 o) (F q.1 o) := fun i hi => by
      obtain ⟨cs', h1, h2⟩ := hx i (by omega)
      obtain ⟨_, hlen, hcell⟩ := World.cells?_some h1
      obtain ⟨z, hz⟩ := el _ _ _ h2 hlen
      refine ⟨(z, fun o => cs'.getD o undef), fun o ho => ?_⟩
      have h3 := hcell o ho
      rw [add_add] at h3
      have h4 : cs'[o]? = some (cs'.getD o undef) := by simp [List.getD, show o < cs'.length by omega]
      rw [h4] at h3
      exact ⟨h3, hz o _ h4⟩
    obtain ⟨Q, hQ⟩ := choose_lt each
    refine ⟨len, fun i => (Q i).1, by unfold maxLen at hm; omega, ?_⟩
    rcases Nat.eq_zero_or_pos len with hz | hpos
    · subst hz; exact .nil _ _ _ _
    · have hs := spot_none (hQ 0 hpos 0 h0).1 (Or.inl (by omega))
      obtain ⟨ab, ao, sub⟩ := a
      simp only at hs
      subst hs
      have hlt : ab < w.heap.size := by
        have := World.block_lt_of_cell? w _ (hQ 0 hpos 0 h0).1
        rwa [Addr.add_lit] at this
      refine .lst ab ao len cap E _ (fun i o => (Q i).2 o) hlt hl hm (fun i o hi' ho => ?_) fun i o hi' ho => (hQ i hi' o ho).2
      have := (hQ i hi' o ho).1
      rw [Addr.add_lit] at this
      rw [Nat.add_assoc]; exact this
theorem cells5 : Try.prog.cellsOf 5 = 1 := by kernel_rfl
theorem cells22 : Try.prog.cellsOf 22 = 1 := by kernel_rfl
theorem cells24 : Try.prog.cellsOf 24 = 1 := by kernel_rfl
theorem cells25 : Try.prog.cellsOf 25 = 1 := by kernel_rfl
abbrev ByteK : Type := {z : Int // 0 ≤ z ∧ z < 256}
instance : Inhabited ByteK := ⟨⟨0, by decide, by decide⟩⟩
theorem byte_cell {n : Nat} {cs : List Value} {y : DataW H × List MemPlace} (h : DataW.trod enc Try.prog w base spare held n 5 cs = some y) (hl : cs.length = 1) : ∃ z : ByteK, ∀ (o : Nat) v, cs[o]? = some v → Rd w (Zw w) v (.g (.int .u8 z.1)) := by
  obtain ⟨z, e, _, wx⟩ := DataW.trod_int Try.underlying5 h
  subst e
  refine ⟨⟨z, ?_⟩, fun o v hv => ?_⟩
  · simp [Lit.wf, IntKind.min, IntKind.max, IntKind.signed, IntKind.bits] at wx
    omega
  · rcases o with _ | o
    · simp at hv; subst hv; exact .g _ rfl
    · simp at hv
abbrev RowK : Type := {q : Nat × (Nat → Int) // q.1 ≤ 9223372036854775807 ∧ Byt q.2}
instance : Inhabited RowK := ⟨⟨(0, fun _ => 0), Nat.zero_le _, fun _ => ⟨Int.le_refl 0, (by decide : (0 : Int) < 256)⟩⟩⟩
theorem open_bytes {c : Value} {n : Nat} {y : DataW H × List MemPlace} (h : DataW.trod enc Try.prog w base spare held n 25 [c] = some y) : ∃ q : RowK, Rd w (Zw w) c (.lst 1 q.1.1 (bytI q.1.2)) := by
  obtain ⟨k, Z, hk, hr⟩ := rd_slice Try.underlying25 cells5 (by omega) (fun (z : ByteK) _ => .g (.int .u8 z.1)) (fun n cs y h hl => byte_cell h hl) h
  exact ⟨⟨(k, fun i => (Z i).1), hk, fun i => (Z i).2⟩, hr⟩
theorem row_cell {n : Nat} {cs : List Value} {y : DataW H × List MemPlace} (h : DataW.trod enc Try.prog w base spare held n 25 cs = some y) (hl : cs.length = 1) : ∃ q : RowK, ∀ (o : Nat) v, cs[o]? = some v → Rd w (Zw w) v (.lst 1 q.1.1 (bytI q.1.2)) := by
  match cs, hl with
  | [c], _ =>
    obtain ⟨q, hq⟩ := open_bytes h
    refine ⟨q, fun o v hv => ?_⟩
    rcases o with _ | o
    · simp at hv; subst hv; exact hq
    · simp at hv
theorem open_rows {c : Value} {n : Nat} {y : DataW H × List MemPlace} (h : DataW.trod enc Try.prog w base spare held n 22 [c] = some y) : ∃ (k : Nat) (m : Nat → Nat) (D : Nat → Nat → Int), (k ≤ 9223372036854775807 ∧ (∀ i, i < k → m i ≤ 9223372036854775807) ∧ ∀ i, Byt (D i)) ∧ Rd w (Zw w) c (.lst 1 k (rowsI m D)) := by
  obtain ⟨k, Z, hk, hr⟩ := rd_slice Try.underlying22 cells25 (by omega) (fun (q : RowK) _ => .lst 1 q.1.1 (bytI q.1.2)) (fun n cs y h hl => row_cell h hl) h
  exact ⟨k, fun i => (Z i).1.1, fun i => (Z i).1.2, ⟨hk, fun i _ => (Z i).2.1, fun i => (Z i).2.2⟩, hr⟩
set_option maxRecDepth 100000 in
theorem open_recs (hv : Value.okWide Try.prog w r b0 22 v) (h : DataW.Trod enc Try.prog w base spare held 22 v d p) : ∃ (k : Nat) (m : Nat → Nat) (D : Nat → Nat → Int), (k ≤ 9223372036854775807 ∧ (∀ i, i < k → m i ≤ 9223372036854775807) ∧ ∀ i, Byt (D i)) ∧ PTRel w (Zw w) v (.one (.lst 1 k (rowsI m D))) := by
  obtain ⟨p0, len, cap, rfl⟩ := okWide_slice Try.underlying22 hv
  obtain ⟨fuel, hf⟩ := h
  exact open_rows (by simpa [Value.cells] using hf)
set_option maxRecDepth 100000 in
theorem open_rec (hv : Value.okWide Try.prog w r b0 25 v) (h : DataW.Trod enc Try.prog w base spare held 25 v d p) : ∃ (k : Nat) (R : Nat → Int), (k ≤ 9223372036854775807 ∧ Byt R) ∧ PTRel w (Zw w) v (.one (.lst 1 k (bytI R))) := by
  obtain ⟨p0, len, cap, rfl⟩ := okWide_slice Try.underlying25 hv
  obtain ⟨fuel, hf⟩ := h
  obtain ⟨q, hq⟩ := open_bytes (c := .slice p0 len cap) (by simpa [Value.cells] using hf)
  exact ⟨_, _, q.2, hq⟩
set_option maxRecDepth 100000 in
theorem open_disk (hv : Value.okWide Try.prog w r b0 24 v) (h : DataW.Trod enc Try.prog w base spare held 24 v d p) : ∃ (k : Nat) (m : Nat → Nat) (D : Nat → Nat → Int), (k ≤ 9223372036854775807 ∧ (∀ i, i < k → m i ≤ 9223372036854775807) ∧ ∀ i, Byt (D i)) ∧ PTRel w (Zw w) v (.agg [.lst 1 k (rowsI m D)]) := by
  obtain ⟨cs, rfl, hsz⟩ := okWide_struct Try.underlying24 hv
  obtain ⟨c0, rfl⟩ : ∃ c0, cs = #[c0] := by
    have h1 := hsz.trans cells24
    exact ⟨cs[0], by apply Array.ext (by simp [h1]); intro i h2 h3; have : i = 0 := by simp at h3; omega
                     subst this; rfl⟩
  obtain ⟨fuel, hf⟩ := h
  obtain ⟨y0, n, _, _, h0⟩ := trod_struct1 Try.underlying24 (cs := [c0]) (by simpa [Value.cells] using hf)
  obtain ⟨k, m, D, ok, hr⟩ := open_rows (by simpa [cells22] using h0)
  exact ⟨k, m, D, ok, _, rfl, hr, trivial⟩
set_option maxRecDepth 100000 in
theorem open_i (hv : Value.okWide Try.prog w r b0 3 v) (h : DataW.Trod enc Try.prog w base spare held 3 v d p) : ∃ x : Int, v = .int .i64 x ∧ (-9223372036854775808 ≤ x ∧ x ≤ 9223372036854775807) := by
  obtain ⟨x, hx, _, _, wx⟩ := open_int Try.underlying3 hv h
  refine ⟨x, hx, ?_⟩
  simp [Lit.wf, IntKind.min, IntKind.max, IntKind.signed, IntKind.bits] at wx
  omega
end
end Go.Proofs.Ytifoncmlelinjaa
