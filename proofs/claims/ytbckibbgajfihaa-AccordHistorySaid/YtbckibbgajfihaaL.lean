/- L: the shapes of the arguments, by value. -/
import Derived.Test.YtbckibbgajfihaaRows
import Derived.Test.YtbckibbgajfihaaK
import Derived.WalkKit
import Derived.ProofKit
import Derived.Lib.SmallJoins
import Derived.Deep.Strs
import Derived.Deep.SlicePairs
set_option linter.unusedVariables false
set_option linter.unusedSimpArgs false
namespace Go.Proofs.Ytbckibbgajfihaa
open Go.ChangeShapes Go.WideShapes Go.ChangeAt Go.RowKit Go.Joins Go.Deep Go.Sea
theorem rd_g {w : World} {Z : Nat → Prop} {v u : Value} (h : Rd w Z v (.g u)) : v = u := by cases h; rfl
abbrev Zw (w : World) : Nat → Prop := fun b => b < w.heap.size
section
variable {H : Type} {enc : TypeId × Value → H} {w : World} {base : Nat} {spare : Nat → Bool} {held : Bool} {r : Reach} {b0 : Nat} {v : Value} {d : DataW H} {p : List MemPlace}
theorem spot_none {a : Addr} {j : Nat} {x : Value} (h : w.cell? (a.add j) = some x) (h0 : j = 0 ∨ a.spot = none) : a.spot = none := by
  rcases h0 with rfl | h0
  · obtain ⟨ab, ao, sub⟩ := a
    cases sub with
    | none => rfl
    | some y =>
      exfalso
      simp [Addr.add, World.cell?] at h
      split at h <;> simp at h
  · exact h0
/-- A list of elements of E cells each, by value. -/
theorem rd_slice {t e : TypeId} (ht : Try.prog.underlying t = some (.slice e)) {E : Nat} (hE : Try.prog.cellsOf e = E) (h0 : 0 < E) {α : Type} [Inhabited α] (F : α → Nat → IV)
    (el : ∀ (n : Nat) (cs : List Value) (y : DataW H × List MemPlace), DataW.trod enc Try.prog w base spare held n e cs = some y → cs.length = E → ∃ z : α, ∀ (o : Nat) v, cs[o]? = some v → Rd w (Zw w) v (F z o))
    {c : Value} {n : Nat} {y : DataW H × List MemPlace} (h : DataW.trod enc Try.prog w base spare held n t [c] = some y) : ∃ (k : Nat) (Z : Nat → α), k ≤ 9223372036854775807 ∧ Rd w (Zw w) c (.lst E k fun i o => F (Z i) o) := by
  rcases open_slice ht h with ⟨e, _⟩ | ⟨a, len, cap, m, n', D, Pl, e, hb, hl, hm, hmm, _, hx⟩
  · simp at e; subst e
    exact ⟨0, fun _ => default, Nat.zero_le _, .nil _ _ _ _⟩
  · simp at e
    subst e
    rw [hE] at hx
    have hlm : len ≤ m := by rw [hmm]; split <;> omega
    have each : ∀ i, i < len → ∃ q : α × (Nat → Value), ∀ o, o < E → w.cell? (a.add (i * E + o)) = some (q.2 o) ∧ Rd w (Zw w) (q.2 o) (F q.1 o) := fun i hi => by
      obtain ⟨cs', h1, h2⟩ := hx i (by omega)
      obtain ⟨_, hlen, hcell⟩ := World.cells?_some h1
      obtain ⟨z, hz⟩ := el _ _ _ h2 hlen
      refine ⟨(z, fun o => cs'.getD o undef), fun o ho => ?_⟩
      have h3 := hcell o ho
      rw [add_add] at h3
      have h4 : cs'[o]? = some (cs'.getD o undef) := by simp [List.getD, show o < cs'.length by omega]
      rw [h4] at h3
      exact ⟨h3, hz o _ h4⟩
    obtain ⟨Q, hQ⟩ := choose_lt each
    refine ⟨len, fun i => (Q i).1, by unfold maxLen at hm; omega, ?_⟩
    rcases Nat.eq_zero_or_pos len with hz | hpos
    · subst hz; exact .nil _ _ _ _
    · have hs := spot_none (hQ 0 hpos 0 h0).1 (Or.inl (by omega))
      obtain ⟨ab, ao, sub⟩ := a
      simp only at hs
      subst hs
      have hlt : ab < w.heap.size := by
        have := World.block_lt_of_cell? w _ (hQ 0 hpos 0 h0).1
        rwa [Addr.add_lit] at this
      refine .lst ab ao len cap E _ (fun i o => (Q i).2 o) hlt hl hm (fun i o hi' ho => ?_) fun i o hi' ho => (hQ i hi' o ho).2
      have := (hQ i hi' o ho).1
      rw [Addr.add_lit] at this
      rw [Nat.add_assoc]; exact this
theorem cells3 : Try.prog.cellsOf 3 = 1 := by kernel_rfl
theorem cells24 : Try.prog.cellsOf 24 = 2 := by kernel_rfl
theorem cells31 : Try.prog.cellsOf 31 = 1 := by kernel_rfl
theorem cells30 : Try.prog.cellsOf 30 = 1 := by kernel_rfl
theorem cells22 : Try.prog.cellsOf 22 = 1 := by kernel_rfl
theorem cells33 : Try.prog.cellsOf 33 = 4 := by kernel_rfl
theorem cells38 : Try.prog.cellsOf 38 = 2 := by kernel_rfl
theorem cells40 : Try.prog.cellsOf 40 = 4 := by kernel_rfl
theorem cells42 : Try.prog.cellsOf 42 = 5 := by kernel_rfl
theorem int_cell {n : Nat} {cs : List Value} {y : DataW H × List MemPlace} (h : DataW.trod enc Try.prog w base spare held n 3 cs = some y) (hl : cs.length = 1) : ∃ z : Int, ∀ (o : Nat) v, cs[o]? = some v → Rd w (Zw w) v (.g (.int .i64 z)) := by
  obtain ⟨z, e, _, _⟩ := DataW.trod_int Try.underlying3 h
  subst e
  refine ⟨z, fun o v hv => ?_⟩
  rcases o with _ | o
  · simp at hv; subst hv; exact .g _ rfl
  · simp at hv
theorem open_ints' {c : Value} {n : Nat} {y : DataW H × List MemPlace} (h : DataW.trod enc Try.prog w base spare held n 31 [c] = some y) : ∃ (k : Nat) (s : Nat → Int), k ≤ 9223372036854775807 ∧ Rd w (Zw w) c (.lst 1 k (intI s)) :=
  rd_slice Try.underlying31 cells3 (by omega) (fun z _ => .g (.int .i64 z)) (fun n cs y h hl => int_cell h hl) h
theorem span_cells {n : Nat} {cs : List Value} {y : DataW H × List MemPlace} (h : DataW.trod enc Try.prog w base spare held n 38 cs = some y) (hl : cs.length = 2) : ∃ a b : Int, cs = [.int .i64 a, .int .i64 b] := by
  match cs, hl with
  | [c0, c1], _ =>
    obtain ⟨y0, y1, n, _, _, h0, h1⟩ := trod_struct2 Try.underlying38 h
    simp [cells3] at h0 h1
    obtain ⟨a, e0, _, _⟩ := DataW.trod_int Try.underlying3 h0
    obtain ⟨b, e1, _, _⟩ := DataW.trod_int Try.underlying3 h1
    simp at e0 e1
    exact ⟨a, b, by rw [e0, e1]⟩
theorem point_cells {n : Nat} {c0 c1 : Value} {y : DataW H × List MemPlace} (h : DataW.trod enc Try.prog w base spare held n 24 [c0, c1] = some y) : ∃ a b : Int, c0 = .int .i64 a ∧ c1 = .int .i64 b := by
  obtain ⟨y0, y1, n, _, _, h0, h1⟩ := trod_struct2 Try.underlying24 h
  simp [cells3] at h0 h1
  obtain ⟨a, e0, _, _⟩ := DataW.trod_int Try.underlying3 h0
  obtain ⟨b, e1, _, _⟩ := DataW.trod_int Try.underlying3 h1
  simp at e0 e1
  exact ⟨a, b, e0, e1⟩
set_option maxRecDepth 100000 in
theorem open_point (hv : Value.okWide Try.prog w r b0 24 v) (h : DataW.Trod enc Try.prog w base spare held 24 v d p) : ∃ a b : Int, v = .agg #[.int .i64 a, .int .i64 b] := by
  obtain ⟨cs, rfl, hsz⟩ := okWide_struct Try.underlying24 hv
  obtain ⟨c0, c1, rfl⟩ := array2 (hsz.trans cells24)
  obtain ⟨fuel, hf⟩ := h
  obtain ⟨a, b, rfl, rfl⟩ := point_cells (by simpa [Value.cells] using hf)
  exact ⟨a, b, rfl⟩
theorem share_cells {n : Nat} {cs : List Value} {y : DataW H × List MemPlace} (h : DataW.trod enc Try.prog w base spare held n 42 cs = some y) (hl : cs.length = 5) : ∃ s : Nat → Int, ∀ (o : Nat) v, cs[o]? = some v → Rd w (Zw w) v (.g (.int .i64 (s o))) := by
  match cs, hl with
  | [c0, c1, c2, c3, c4], _ =>
    obtain ⟨y0, y1, n, _, _, h0, h1⟩ := trod_struct2 Try.underlying42 h
    simp [cells3, cells40] at h0 h1
    obtain ⟨a, e0, _, _⟩ := DataW.trod_int Try.underlying3 h0
    obtain ⟨z0, z1, n, _, _, g0, g1⟩ := trod_struct2 Try.underlying40 h1
    simp [cells38] at g0 g1
    obtain ⟨b, c, e1⟩ := span_cells g0 rfl
    obtain ⟨d, e, e2⟩ := span_cells g1 rfl
    simp at e0 e1 e2
    obtain ⟨rfl, rfl⟩ := e1
    obtain ⟨rfl, rfl⟩ := e2
    subst e0
    refine ⟨fun o => match o with | 0 => a | 1 => b | 2 => c | 3 => d | _ => e, fun o v hv => ?_⟩
    rcases o with _ | _ | _ | _ | _ | o <;> simp at hv <;> subst hv <;> exact .g _ rfl
theorem open_shares {c : Value} {n : Nat} {y : DataW H × List MemPlace} (h : DataW.trod enc Try.prog w base spare held n 30 [c] = some y) : ∃ (k : Nat) (s : Nat → Nat → Int), k ≤ 9223372036854775807 ∧ Rd w (Zw w) c (.lst 5 k (cellI s)) :=
  rd_slice Try.underlying30 cells42 (by omega) (fun (z : Nat → Int) o => .g (.int .i64 (z o))) (fun n cs y h hl => share_cells h hl) h
abbrev AccK : Type := {a : Acc // a.m ≤ 9223372036854775807 ∧ a.q ≤ 9223372036854775807}
instance : Inhabited AccK := ⟨⟨acc0, Nat.zero_le _, Nat.zero_le _⟩⟩
theorem acc_cells {n : Nat} {cs : List Value} {y : DataW H × List MemPlace} (h : DataW.trod enc Try.prog w base spare held n 33 cs = some y) (hl : cs.length = 4) : ∃ a : AccK, ∀ (o : Nat) v, cs[o]? = some v → Rd w (Zw w) v (accF (fun _ => a.1) 0 o) := by
  match cs, hl with
  | [c0, c1, c2, c3], _ =>
    obtain ⟨y0, y1, y2, y3, n, _, _, h0, h1, h2, h3⟩ := trod_struct4 Try.underlying33 h
    simp [cells3, cells30, cells31] at h0 h1 h2 h3
    obtain ⟨a, e0, _, _⟩ := DataW.trod_int Try.underlying3 h0
    obtain ⟨b, e1, _, _⟩ := DataW.trod_int Try.underlying3 h1
    obtain ⟨m, sh, hm, r2⟩ := open_shares h2
    obtain ⟨q, sg, hq, r3⟩ := open_ints' h3
    simp at e0 e1
    subst e0 e1
    refine ⟨⟨⟨a, b, m, sh, q, sg⟩, hm, hq⟩, fun o v hv => ?_⟩
    rcases o with _ | _ | _ | _ | o <;> simp at hv <;> subst hv
    · exact .g _ rfl
    · exact .g _ rfl
    · exact r2
    · exact r3
theorem open_accs {c : Value} {n : Nat} {y : DataW H × List MemPlace} (h : DataW.trod enc Try.prog w base spare held n 22 [c] = some y) : ∃ (k : Nat) (a : Nat → Acc), (k ≤ 9223372036854775807 ∧ ∀ i, i < k → (a i).m ≤ 9223372036854775807 ∧ (a i).q ≤ 9223372036854775807) ∧ Rd w (Zw w) c (.lst 4 k (accF a)) := by
  obtain ⟨k, Z, hk, hr⟩ := rd_slice Try.underlying22 cells33 (by omega) (fun (z : AccK) o => accF (fun _ => z.1) 0 o) (fun n cs y h hl => acc_cells h hl) h
  refine ⟨k, fun i => (Z i).1, ⟨hk, fun i _ => (Z i).2⟩, ?_⟩
  have e : (fun i o => accF (fun _ => (Z i).1) 0 o) = accF fun i => (Z i).1 := by
    funext i o
    rw [accF_congr (a' := fun i => (Z i).1) (j := i) rfl]
  rw [e] at hr
  exact hr
set_option maxRecDepth 100000 in
theorem open_list (hv : Value.okWide Try.prog w r b0 22 v) (h : DataW.Trod enc Try.prog w base spare held 22 v d p) : ∃ (k : Nat) (a : Nat → Acc), (k ≤ 9223372036854775807 ∧ ∀ i, i < k → (a i).m ≤ 9223372036854775807 ∧ (a i).q ≤ 9223372036854775807) ∧ PTRel w (Zw w) v (.one (.lst 4 k (accF a))) := by
  obtain ⟨p0, len, cap, rfl⟩ := okWide_slice Try.underlying22 hv
  obtain ⟨fuel, hf⟩ := h
  exact open_accs (by simpa [Value.cells] using hf)
set_option maxRecDepth 100000 in
theorem open_acc (hv : Value.okWide Try.prog w r b0 33 v) (h : DataW.Trod enc Try.prog w base spare held 33 v d p) : ∃ a : Acc, (a.m ≤ 9223372036854775807 ∧ a.q ≤ 9223372036854775807) ∧ PTRel w (Zw w) v (accP a) := by
  obtain ⟨cs, rfl, hsz⟩ := okWide_struct Try.underlying33 hv
  obtain ⟨c0, c1, c2, c3, rfl⟩ := array4 (hsz.trans cells33)
  obtain ⟨fuel, hf⟩ := h
  obtain ⟨⟨a, ha⟩, hz⟩ := acc_cells (cs := [c0, c1, c2, c3]) (by simpa [Value.cells] using hf) rfl
  exact ⟨a, ha, _, rfl, hz 0 c0 rfl, hz 1 c1 rfl, hz 2 c2 rfl, hz 3 c3 rfl, trivial⟩
set_option maxRecDepth 100000 in
theorem open_i (hv : Value.okWide Try.prog w r b0 3 v) (h : DataW.Trod enc Try.prog w base spare held 3 v d p) : ∃ x : Int, v = .int .i64 x ∧ (Lit.int .i64 x).wf = true := by
  obtain ⟨x, hx, _, _, wx⟩ := open_int Try.underlying3 hv h
  exact ⟨x, hx, wx⟩
set_option maxRecDepth 100000 in
theorem open_u8i (hv : Value.okWide Try.prog w r b0 5 v) (h : DataW.Trod enc Try.prog w base spare held 5 v d p) : ∃ x : Int, v = .int .u8 x ∧ (0 ≤ x ∧ x ≤ 255) := by
  obtain ⟨x, hx, _, _, wx⟩ := open_int Try.underlying5 hv h
  refine ⟨x, hx, ?_⟩
  simp [Lit.wf, IntKind.min, IntKind.max, IntKind.signed, IntKind.bits] at wx
  omega
end
end Go.Proofs.Ytbckibbgajfihaa
