/- Part 11 of 15: contracts of functions and plain laws for the root text. No condition. -/
import Derived.Test.YtmnejmpjmniiiaaGreatDoorX01
import Derived.Test.YtmnejmpjmniiiaaGreatDoorX02
import Derived.Test.YtmnejmpjmniiiaaGreatDoorX03
import Derived.Test.YtmnejmpjmniiiaaGreatDoorX04
import Derived.Test.YtmnejmpjmniiiaaGreatDoorX05
import Derived.Test.YtmnejmpjmniiiaaGreatDoorX06
import Derived.Test.YtmnejmpjmniiiaaGreatDoorX07
import Derived.Test.YtmnejmpjmniiiaaGreatDoorX08
import Derived.Test.YtmnejmpjmniiiaaGreatDoorX09
import Derived.Test.YtmnejmpjmniiiaaGreatDoorX10
import Derived.Test.YtmnejmpjmniiiaaGreatDoorRows
import Derived.WalkKit
import Derived.ProofKit
import Derived.Lib.SmallJoins
import Derived.Lib.LaidTab
import Derived.MakeChecks
import Derived.Deep.Strs
import Derived.Deep.SlicePairs
import Derived.LaidMore
import Derived.Lib.AppendZeros
import Derived.Laws.Tables
import Derived.Laws.IdiomCopy
import Derived.Laws.AppendOwn
import Derived.Shelf.Spec.TrailingZeros
import Derived.Ground.Names7Prog
import Derived.Test.YtmnejmpjmniiiaaGreatDoorProg
set_option linter.unusedVariables false
set_option linter.unusedSimpArgs false
set_option maxRecDepth 100000
set_option maxHeartbeats 4000000
namespace Go.Proofs.YtmnejmpjmniiiaaGreatDoor
open Go.ChangeShapes Go.WideShapes Go.ChangeAt Go.RowKit Go.Joins Go.Deep Go.Sea
theorem rd_g {w : World} {Z : Nat → Prop} {v u : Value} (h : Rd w Z v (.g u)) : v = u := by cases h; rfl
abbrev Zw (w : World) : Nat → Prop := fun b => b < w.heap.size
section
variable {H : Type} {enc : TypeId × Value → H} {w : World} {base : Nat} {spare : Nat → Bool} {held : Bool} {r : Reach} {b0 : Nat} {v : Value} {d : DataW H} {p : List MemPlace}
theorem spot_none {a : Addr} {j : Nat} {x : Value} (h : w.cell? (a.add j) = some x) (h0 : j = 0 ∨ a.spot = none) : a.spot = none := by
  rcases h0 with rfl | h0
  · obtain ⟨ab, ao, sub⟩ := a
    cases sub with
    | none => rfl
    | some y =>
      exfalso
      simp [Addr.add, World.cell?] at h
      split at h <;> simp at h
  · exact h0
theorem rd_slice {t e : TypeId} (ht : Tryz.prog.underlying t = some (.slice e)) {E : Nat} (hE : Tryz.prog.cellsOf e = E) (h0 : 0 < E) {α : Type} [Inhabited α] (F : α → Nat → IV)
    (el : ∀ (n : Nat) (cs : List Value) (y : DataW H × List MemPlace), DataW.trod enc Tryz.prog w base spare held n e cs = some y → cs.length = E → ∃ z : α, ∀ (o : Nat) v, cs[o]? = some v → Rd w (Zw w) v (F z o))
    {c : Value} {n : Nat} {y : DataW H × List MemPlace} (h : DataW.trod enc Tryz.prog w base spare held n t [c] = some y) : ∃ (k : Nat) (Z : Nat → α), k ≤ 9223372036854775807 ∧ Rd w (Zw w) c (.lst E k fun i o => F (Z i) o) := by
  rcases open_slice ht h with ⟨e, _⟩ | ⟨a, len, cap, m, n', D, Pl, e, hb, hl, hm, hmm, _, hx⟩
  · simp at e; subst e
    exact ⟨0, fun _ => default, Nat.zero_le _, .nil _ _ _ _⟩
  · simp at e
    subst e
    rw [hE] at hx
    have hlm : len ≤ m := by rw [hmm]; split <;> omega
    have each : ∀ i, i < len → ∃ q : α × (Nat → Value), ∀ o, o < E → w.cell? (a.add (i * E + o)) = some (q.2 o) ∧ Rd w (Zw w) (q.2 o) (F q.1 o) := fun i hi => by
      obtain ⟨cs', h1, h2⟩ := hx i (by omega)
      obtain ⟨_, hlen, hcell⟩ := World.cells?_some h1
      obtain ⟨z, hz⟩ := el _ _ _ h2 hlen
      refine ⟨(z, fun o => cs'.getD o undef), fun o ho => ?_⟩
      have h3 := hcell o ho
      rw [add_add] at h3
      have h4 : cs'[o]? = some (cs'.getD o undef) := by simp [List.getD, show o < cs'.length by omega]
      rw [h4] at h3
      exact ⟨h3, hz o _ h4⟩
    obtain ⟨Q, hQ⟩ := choose_lt each
    refine ⟨len, fun i => (Q i).1, by unfold maxLen at hm; omega, ?_⟩
    rcases Nat.eq_zero_or_pos len with hz | hpos
    · subst hz; exact .nil _ _ _ _
    · have hs := spot_none (hQ 0 hpos 0 h0).1 (Or.inl (by omega))
      obtain ⟨ab, ao, sub⟩ := a
      simp only at hs
      subst hs
      have hlt : ab < w.heap.size := by
        have := World.block_lt_of_cell? w _ (hQ 0 hpos 0 h0).1
        rwa [Addr.add_lit] at this
      refine .lst ab ao len cap E _ (fun i o => (Q i).2 o) hlt hl hm (fun i o hi' ho => ?_) fun i o hi' ho => (hQ i hi' o ho).2
      have := (hQ i hi' o ho).1
      rw [Addr.add_lit] at this
      rw [Nat.add_assoc]; exact this
theorem cells3 : Tryz.prog.cellsOf 3 = 1 := by kernel_rfl
theorem int_cell {n : Nat} {cs : List Value} {y : DataW H × List MemPlace} (h : DataW.trod enc Tryz.prog w base spare held n 3 cs = some y) (hl : cs.length = 1) : ∃ z : Int, ∀ (o : Nat) v, cs[o]? = some v → Rd w (Zw w) v (.g (.int .i64 z)) := by
  obtain ⟨z, e, _, _⟩ := DataW.trod_int Tryz.underlying3 h
  subst e
  refine ⟨z, fun o v hv => ?_⟩
  rcases o with _ | o
  · simp at hv; subst hv; exact .g _ rfl
  · simp at hv
theorem open_ints' {c : Value} {n : Nat} {y : DataW H × List MemPlace} (h : DataW.trod enc Tryz.prog w base spare held n 27 [c] = some y) : ∃ (k : Nat) (s : Nat → Int), k ≤ 9223372036854775807 ∧ Rd w (Zw w) c (.lst 1 k (intI s)) :=
  rd_slice Tryz.underlying27 cells3 (by omega) (fun z _ => .g (.int .i64 z)) (fun n cs y h hl => int_cell h hl) h
theorem cell_at {cs : List Value} {k : Nat} {v c : Value} (h : (cs.drop k).take 1 = [c]) (hv : cs[k]? = some v) : v = c := by
  have h1 : ((cs.drop k).take 1)[0]? = some c := by rw [h]; rfl
  rw [List.getElem?_take, if_pos (by omega), List.getElem?_drop, Nat.add_zero, hv] at h1
  exact Option.some.inj h1
theorem sub_at {cs : List Value} {k m o : Nat} {v : Value} (ho : o < m) (hv : cs[k + o]? = some v) : ((cs.drop k).take m)[o]? = some v := by
  rw [List.getElem?_take, if_pos ho, List.getElem?_drop]; exact hv
theorem fld {t : TypeId} {fs : Array Field} {n : Nat} {cs : List Value} {y : DataW H × List MemPlace} (ht : Tryz.prog.underlying t = some (.struct fs)) (h : DataW.trod enc Tryz.prog w base spare held n t cs = some y) (i : Nat) {f : Field} (hf : fs[i]? = some f) {T k m : Nat} (hT : f.type = T) (hk : f.offset = k) (hm : Tryz.prog.cellsOf T = m) :
    cs.length = Tryz.prog.cellsOf t ∧ ∃ n' y', DataW.trod enc Tryz.prog w base spare held n' T ((cs.drop k).take m) = some y' := by
  obtain ⟨xs, n', _, _, hl, hlen, hx⟩ := DataW.trod_struct ht h
  have h1 := hx i f hf
  rw [hT, hk, hm] at h1
  have hi : i < xs.length := by
    rw [hlen]
    have := (Array.getElem?_eq_some_iff.1 hf)
    exact this.1
  rw [List.getElem?_eq_getElem hi] at h1
  exact ⟨hl, n', _, h1⟩
theorem fld_int {t : TypeId} {fs : Array Field} {n : Nat} {cs : List Value} {y : DataW H × List MemPlace} (ht : Tryz.prog.underlying t = some (.struct fs)) (h : DataW.trod enc Tryz.prog w base spare held n t cs = some y) (i : Nat) {f : Field} (hf : fs[i]? = some f) (hT : f.type = 3) {k : Nat} (hk : f.offset = k) :
    ∃ a : Int, ∀ v, cs[k]? = some v → Rd w (Zw w) v (.g (.int .i64 a)) := by
  obtain ⟨_, n', y', g⟩ := fld ht h i hf hT hk cells3
  obtain ⟨a, e, _, _⟩ := DataW.trod_int Tryz.underlying3 g
  exact ⟨a, fun v hv => by rw [cell_at e hv]; exact .g _ rfl⟩
theorem sl_one {t e : TypeId} (ht : Tryz.prog.underlying t = some (.slice e)) {n : Nat} {cs : List Value} {k : Nat} {y : DataW H × List MemPlace} (h : DataW.trod enc Tryz.prog w base spare held n t ((cs.drop k).take 1) = some y) : ∃ c, DataW.trod enc Tryz.prog w base spare held n t [c] = some y ∧ ∀ v, cs[k]? = some v → v = c := by
  obtain ⟨a, l, c, e⟩ := slice_form ht h
  exact ⟨_, by rw [e] at h; exact h, fun v hv => cell_at e hv⟩
abbrev FeatK : Type := {f : Feat // f.Ok}
abbrev OpK : Type := {o : OpS // o.f.Ok}
abbrev StepK : Type := {s : StepS // s.q ≤ 9223372036854775807}
abbrev PtK : Type := {p : PtS // p.k ≤ 9223372036854775807 ∧ ∀ i, i < p.k → (p.o i).f.Ok}
instance : Inhabited FeatK := ⟨⟨feat0, feat0_ok⟩⟩
instance : Inhabited OpK := ⟨⟨⟨0, 0, feat0, 0, 0, 0, 0, 0⟩, feat0_ok⟩⟩
instance : Inhabited StepK := ⟨⟨⟨0, 0, fun _ => 0⟩, Nat.zero_le _⟩⟩
instance : Inhabited PtK := ⟨⟨⟨0, fun _ => ⟨0, 0, feat0, 0, 0, 0, 0, 0⟩⟩, Nat.zero_le _, fun _ h => absurd h (Nat.not_lt_zero _)⟩⟩
theorem cells27 : Tryz.prog.cellsOf 27 = 1 := by kernel_rfl
theorem cells63 : Tryz.prog.cellsOf 63 = 1 := by kernel_rfl
theorem cells64 : Tryz.prog.cellsOf 64 = 1 := by kernel_rfl
theorem cells22 : Tryz.prog.cellsOf 22 = 1 := by kernel_rfl
theorem cells54 : Tryz.prog.cellsOf 54 = 1 := by kernel_rfl
theorem cells23 : Tryz.prog.cellsOf 23 = 1 := by kernel_rfl
theorem cells24 : Tryz.prog.cellsOf 24 = 1 := by kernel_rfl
theorem cellspt : Tryz.prog.cellsOf 62 = 2 := by kernel_rfl
theorem pt_cells {n : Nat} {cs : List Value} {y : DataW H × List MemPlace} (h : DataW.trod enc Tryz.prog w base spare held n 62 cs = some y) : ∃ z : Nat → Int, ∀ (o : Nat) v, cs[o]? = some v → Rd w (Zw w) v (.g (.int .i64 (z o))) := by
  have hlen : cs.length = 2 := by rw [(fld Tryz.underlying62 h 0 rfl rfl rfl rfl).1, cellspt]
  obtain ⟨a, ca⟩ := fld_int Tryz.underlying62 h 0 rfl rfl rfl (k := 0)
  obtain ⟨b, cb⟩ := fld_int Tryz.underlying62 h 1 rfl rfl rfl (k := 1)
  refine ⟨fun o => match o with | 0 => a | _ => b, fun o v hv => ?_⟩
  match o, hv with
  | 0, hv => exact ca _ hv
  | 1, hv => exact cb _ hv
  | o + 2, hv => rw [List.getElem?_eq_none (by omega)] at hv; cases hv
theorem cellssec : Tryz.prog.cellsOf 151 = 6 := by kernel_rfl
theorem sec_cells {n : Nat} {cs : List Value} {y : DataW H × List MemPlace} (h : DataW.trod enc Tryz.prog w base spare held n 151 cs = some y) : ∃ z : Nat → Int, ∀ (o : Nat) v, cs[o]? = some v → Rd w (Zw w) v (.g (.int .i64 (z o))) := by
  have hlen : cs.length = 6 := by rw [(fld Tryz.underlying151 h 0 rfl rfl rfl rfl).1, cellssec]
  obtain ⟨_, n0, y0, g0⟩ := fld Tryz.underlying151 h 0 rfl rfl rfl (k := 0) (T := 62) cellspt
  obtain ⟨p, r0⟩ := pt_cells g0
  obtain ⟨_, n1, y1, g1⟩ := fld Tryz.underlying151 h 1 rfl rfl rfl (k := 2) (T := 62) cellspt
  obtain ⟨q, r1⟩ := pt_cells g1
  obtain ⟨c, cc⟩ := fld_int Tryz.underlying151 h 2 rfl rfl rfl (k := 4)
  obtain ⟨d, cd⟩ := fld_int Tryz.underlying151 h 3 rfl rfl rfl (k := 5)
  refine ⟨fun o => match o with | 0 => p 0 | 1 => p 1 | 2 => q 0 | 3 => q 1 | 4 => c | _ => d, fun o v hv => ?_⟩
  match o, hv with
  | 0, hv => exact r0 0 _ (sub_at (by omega) hv)
  | 1, hv => exact r0 1 _ (sub_at (by omega) hv)
  | 2, hv => exact r1 0 _ (sub_at (by omega) hv)
  | 3, hv => exact r1 1 _ (sub_at (by omega) hv)
  | 4, hv => exact cc _ hv
  | 5, hv => exact cd _ hv
  | o + 6, hv => rw [List.getElem?_eq_none (by omega)] at hv; cases hv
theorem open_pts {c : Value} {n : Nat} {y : DataW H × List MemPlace} (h : DataW.trod enc Tryz.prog w base spare held n 63 [c] = some y) : ∃ (k : Nat) (s : Nat → (Nat → Int)), k ≤ 9223372036854775807 ∧ Rd w (Zw w) c (.lst 2 k (ptI s)) :=
  rd_slice Tryz.underlying63 cellspt (by omega) (fun (z : Nat → Int) o => .g (.int .i64 (z o))) (fun n cs y h hl => pt_cells h) h
theorem open_secs {c : Value} {n : Nat} {y : DataW H × List MemPlace} (h : DataW.trod enc Tryz.prog w base spare held n 64 [c] = some y) : ∃ (k : Nat) (s : Nat → (Nat → Int)), k ≤ 9223372036854775807 ∧ Rd w (Zw w) c (.lst 6 k (ptI s)) :=
  rd_slice Tryz.underlying64 cellssec (by omega) (fun (z : Nat → Int) o => .g (.int .i64 (z o))) (fun n cs y h hl => sec_cells h) h
theorem cellsfeat : Tryz.prog.cellsOf 66 = 9 := by kernel_rfl
theorem feat_cells {n : Nat} {cs : List Value} {y : DataW H × List MemPlace} (h : DataW.trod enc Tryz.prog w base spare held n 66 cs = some y) : ∃ z : FeatK, ∀ (o : Nat) v, cs[o]? = some v → Rd w (Zw w) v (featG z.1 o) := by
  have hlen : cs.length = 9 := by rw [(fld Tryz.underlying66 h 0 rfl rfl rfl rfl).1, cellsfeat]
  obtain ⟨a0, ca0⟩ := fld_int Tryz.underlying66 h 0 rfl rfl rfl (k := 0)
  obtain ⟨a1, ca1⟩ := fld_int Tryz.underlying66 h 1 rfl rfl rfl (k := 1)
  obtain ⟨_, n2, y2, g2⟩ := fld Tryz.underlying66 h 2 rfl rfl rfl (k := 2) (T := 62) cellspt
  obtain ⟨p, r2⟩ := pt_cells g2
  obtain ⟨a3, ca3⟩ := fld_int Tryz.underlying66 h 3 rfl rfl rfl (k := 4)
  obtain ⟨_, n4, y4, g4⟩ := fld Tryz.underlying66 h 4 rfl rfl rfl (k := 5) (T := 63) cells63
  obtain ⟨c4, k4, e4⟩ := sl_one Tryz.underlying63 g4
  obtain ⟨m4, s4, b4, r4⟩ := open_pts k4
  obtain ⟨a5, ca5⟩ := fld_int Tryz.underlying66 h 5 rfl rfl rfl (k := 6)
  obtain ⟨a6, ca6⟩ := fld_int Tryz.underlying66 h 6 rfl rfl rfl (k := 7)
  obtain ⟨_, n7, y7, g7⟩ := fld Tryz.underlying66 h 7 rfl rfl rfl (k := 8) (T := 64) cells64
  obtain ⟨c7, k7, e7⟩ := sl_one Tryz.underlying64 g7
  obtain ⟨m7, s7, b7, r7⟩ := open_secs k7
  refine ⟨⟨⟨a0, a1, p 0, p 1, a3, m4, s4, a5, a6, m7, s7⟩, b4, b7⟩, fun o v hv => ?_⟩
  match o, hv with
  | 0, hv => exact ca0 _ hv
  | 1, hv => exact ca1 _ hv
  | 2, hv => exact r2 0 _ (sub_at (by omega) hv)
  | 3, hv => exact r2 1 _ (sub_at (by omega) hv)
  | 4, hv => exact ca3 _ hv
  | 5, hv => rw [e4 _ hv]; exact r4
  | 6, hv => exact ca5 _ hv
  | 7, hv => exact ca6 _ hv
  | 8, hv => rw [e7 _ hv]; exact r7
  | o + 9, hv => rw [List.getElem?_eq_none (by omega)] at hv; cases hv
theorem cellsop : Tryz.prog.cellsOf 112 = 16 := by kernel_rfl
theorem op_cells {n : Nat} {cs : List Value} {y : DataW H × List MemPlace} (h : DataW.trod enc Tryz.prog w base spare held n 112 cs = some y) : ∃ z : OpK, ∀ (o : Nat) v, cs[o]? = some v → Rd w (Zw w) v (oprG z.1 o) := by
  have hlen : cs.length = 16 := by rw [(fld Tryz.underlying112 h 0 rfl rfl rfl rfl).1, cellsop]
  obtain ⟨a0, ca0⟩ := fld_int Tryz.underlying112 h 0 rfl rfl rfl (k := 0)
  obtain ⟨a1, ca1⟩ := fld_int Tryz.underlying112 h 1 rfl rfl rfl (k := 1)
  obtain ⟨_, n2, y2, g2⟩ := fld Tryz.underlying112 h 2 rfl rfl rfl (k := 2) (T := 66) cellsfeat
  obtain ⟨f, r2⟩ := feat_cells g2
  obtain ⟨_, n3, y3, g3⟩ := fld Tryz.underlying112 h 3 rfl rfl rfl (k := 11) (T := 62) cellspt
  obtain ⟨p, r3⟩ := pt_cells g3
  obtain ⟨a4, ca4⟩ := fld_int Tryz.underlying112 h 4 rfl rfl rfl (k := 13)
  obtain ⟨a5, ca5⟩ := fld_int Tryz.underlying112 h 5 rfl rfl rfl (k := 14)
  obtain ⟨a6, ca6⟩ := fld_int Tryz.underlying112 h 6 rfl rfl rfl (k := 15)
  refine ⟨⟨⟨a0, a1, f.1, p 0, p 1, a4, a5, a6⟩, f.2⟩, fun o v hv => ?_⟩
  match o, hv with
  | 0, hv => exact ca0 _ hv
  | 1, hv => exact ca1 _ hv
  | 2, hv => exact r2 0 _ (sub_at (by omega) hv)
  | 3, hv => exact r2 1 _ (sub_at (by omega) hv)
  | 4, hv => exact r2 2 _ (sub_at (by omega) hv)
  | 5, hv => exact r2 3 _ (sub_at (by omega) hv)
  | 6, hv => exact r2 4 _ (sub_at (by omega) hv)
  | 7, hv => exact r2 5 _ (sub_at (by omega) hv)
  | 8, hv => exact r2 6 _ (sub_at (by omega) hv)
  | 9, hv => exact r2 7 _ (sub_at (by omega) hv)
  | 10, hv => exact r2 8 _ (sub_at (by omega) hv)
  | 11, hv => exact r3 0 _ (sub_at (by omega) hv)
  | 12, hv => exact r3 1 _ (sub_at (by omega) hv)
  | 13, hv => exact ca4 _ hv
  | 14, hv => exact ca5 _ hv
  | 15, hv => exact ca6 _ hv
  | o + 16, hv => rw [List.getElem?_eq_none (by omega)] at hv; cases hv
theorem open_fea {c : Value} {n : Nat} {y : DataW H × List MemPlace} (h : DataW.trod enc Tryz.prog w base spare held n 22 [c] = some y) : ∃ (k : Nat) (s : Nat → FeatK), k ≤ 9223372036854775807 ∧ Rd w (Zw w) c (.lst 9 k (featF fun i => (s i).1)) :=
  rd_slice Tryz.underlying22 cellsfeat (by omega) (fun (z : FeatK) o => featG z.1 o) (fun n cs y h hl => feat_cells h) h
theorem open_ops {c : Value} {n : Nat} {y : DataW H × List MemPlace} (h : DataW.trod enc Tryz.prog w base spare held n 54 [c] = some y) : ∃ (k : Nat) (s : Nat → OpK), k ≤ 9223372036854775807 ∧ Rd w (Zw w) c (.lst 16 k (oprF fun i => (s i).1)) :=
  rd_slice Tryz.underlying54 cellsop (by omega) (fun (z : OpK) o => oprG z.1 o) (fun n cs y h hl => op_cells h) h
theorem cellsstp : Tryz.prog.cellsOf 48 = 2 := by kernel_rfl
theorem stp_cells {n : Nat} {cs : List Value} {y : DataW H × List MemPlace} (h : DataW.trod enc Tryz.prog w base spare held n 48 cs = some y) : ∃ z : StepK, ∀ (o : Nat) v, cs[o]? = some v → Rd w (Zw w) v (stpG z.1 o) := by
  have hlen : cs.length = 2 := by rw [(fld Tryz.underlying48 h 0 rfl rfl rfl rfl).1, cellsstp]
  obtain ⟨a0, ca0⟩ := fld_int Tryz.underlying48 h 0 rfl rfl rfl (k := 0)
  obtain ⟨_, n1, y1, g1⟩ := fld Tryz.underlying48 h 1 rfl rfl rfl (k := 1) (T := 27) cells27
  obtain ⟨c1, k1, e1⟩ := sl_one Tryz.underlying27 g1
  obtain ⟨q, a, b1, r1⟩ := open_ints' k1
  refine ⟨⟨⟨a0, q, a⟩, b1⟩, fun o v hv => ?_⟩
  match o, hv with
  | 0, hv => exact ca0 _ hv
  | 1, hv => rw [e1 _ hv]; exact r1
  | o + 2, hv => rw [List.getElem?_eq_none (by omega)] at hv; cases hv
theorem open_steps {c : Value} {n : Nat} {y : DataW H × List MemPlace} (h : DataW.trod enc Tryz.prog w base spare held n 23 [c] = some y) : ∃ (k : Nat) (s : Nat → StepK), k ≤ 9223372036854775807 ∧ Rd w (Zw w) c (.lst 2 k (stF fun i => (s i).1)) :=
  rd_slice Tryz.underlying23 cellsstp (by omega) (fun (z : StepK) o => stpG z.1 o) (fun n cs y h hl => stp_cells h) h
theorem ops_cell {n : Nat} {cs : List Value} {y : DataW H × List MemPlace} (h : DataW.trod enc Tryz.prog w base spare held n 54 cs = some y) (hl : cs.length = 1) : ∃ z : PtK, ∀ (o : Nat) v, cs[o]? = some v → Rd w (Zw w) v (.lst 16 z.1.k (oprF z.1.o)) := by
  match cs, hl with
  | [c], _ =>
    obtain ⟨k, s, hk, hz⟩ := open_ops h
    refine ⟨⟨⟨k, fun i => (s i).1⟩, hk, fun i _ => (s i).2⟩, fun o v hv => ?_⟩
    rcases o with _ | o
    · simp at hv; subst hv; exact hz
    · simp at hv
theorem open_pats {c : Value} {n : Nat} {y : DataW H × List MemPlace} (h : DataW.trod enc Tryz.prog w base spare held n 24 [c] = some y) : ∃ (k : Nat) (s : Nat → PtK), k ≤ 9223372036854775807 ∧ Rd w (Zw w) c (.lst 1 k (ptF fun i => (s i).1)) :=
  rd_slice Tryz.underlying24 cells54 (by omega) (fun (z : PtK) _ => .lst 16 z.1.k (oprF z.1.o)) (fun n cs y h hl => ops_cell h hl) h
theorem cellscas : Tryz.prog.cellsOf 26 = 3 := by kernel_rfl
theorem cas_cells {n : Nat} {cs : List Value} {y : DataW H × List MemPlace} (h : DataW.trod enc Tryz.prog w base spare held n 26 cs = some y) : ∃ z : CaS, z.Ok ∧ ∀ (o : Nat) v, cs[o]? = some v → Rd w (Zw w) v (match o with | 0 => .lst 9 z.n (featF z.f) | 1 => .lst 2 z.m (stF z.S) | _ => .lst 1 z.mo (ptF z.O)) := by
  have hlen : cs.length = 3 := by rw [(fld Tryz.underlying26 h 0 rfl rfl rfl rfl).1, cellscas]
  obtain ⟨_, n0, y0, g0⟩ := fld Tryz.underlying26 h 0 rfl rfl rfl (k := 0) (T := 22) cells22
  obtain ⟨c0, k0, e0⟩ := sl_one Tryz.underlying22 g0
  obtain ⟨kA, sA, bA, r0⟩ := open_fea k0
  obtain ⟨_, n1, y1, g1⟩ := fld Tryz.underlying26 h 1 rfl rfl rfl (k := 1) (T := 23) cells23
  obtain ⟨c1, k1, e1⟩ := sl_one Tryz.underlying23 g1
  obtain ⟨kB, sB, bB, r1⟩ := open_steps k1
  obtain ⟨_, n2, y2, g2⟩ := fld Tryz.underlying26 h 2 rfl rfl rfl (k := 2) (T := 24) cells24
  obtain ⟨c2, k2, e2⟩ := sl_one Tryz.underlying24 g2
  obtain ⟨kC, sC, bC, r2⟩ := open_pats k2
  refine ⟨⟨kA, fun i => (sA i).1, kB, fun i => (sB i).1, kC, fun i => (sC i).1⟩, ⟨bA, fun i _ => (sA i).2, bB, fun i _ => (sB i).2, bC, fun i _ => (sC i).2.1, fun i _ => (sC i).2.2⟩, fun o v hv => ?_⟩
  match o, hv with
  | 0, hv => rw [e0 _ hv]; exact r0
  | 1, hv => rw [e1 _ hv]; exact r1
  | 2, hv => rw [e2 _ hv]; exact r2
  | o + 3, hv => rw [List.getElem?_eq_none (by omega)] at hv; cases hv
theorem array3' {α : Type} {cs : Array α} (h : cs.size = 3) : ∃ c0 c1 c2, cs = #[c0, c1, c2] := by
  obtain ⟨l⟩ := cs
  match l, h with
  | [c0, c1, c2], _ => exact ⟨c0, c1, c2, rfl⟩
theorem open_case (hv : Value.okWide Tryz.prog w r b0 26 v) (h : DataW.Trod enc Tryz.prog w base spare held 26 v d p) : ∃ z : CaS, z.Ok ∧ PTRel w (Zw w) v (.agg [.lst 9 z.n (featF z.f), .lst 2 z.m (stF z.S), .lst 1 z.mo (ptF z.O)]) := by
  obtain ⟨cs, rfl, hsz⟩ := okWide_struct Tryz.underlying26 hv
  obtain ⟨c0, c1, c2, rfl⟩ := array3' (hsz.trans cellscas)
  obtain ⟨fuel, hf⟩ := h
  obtain ⟨z, hN, hz⟩ := cas_cells (cs := [c0, c1, c2]) (by simpa [Value.cells] using hf)
  exact ⟨z, hN, _, rfl, hz 0 c0 rfl, hz 1 c1 rfl, hz 2 c2 rfl, trivial⟩
theorem open_ints (hv : Value.okWide Tryz.prog w r b0 27 v) (h : DataW.Trod enc Tryz.prog w base spare held 27 v d p) : ∃ (k : Nat) (s : Nat → Int), k ≤ 9223372036854775807 ∧ PTRel w (Zw w) v (.one (.lst 1 k (intI s))) := by
  obtain ⟨p0, len, cap, rfl⟩ := okWide_slice Tryz.underlying27 hv
  obtain ⟨fuel, hf⟩ := h
  obtain ⟨k, s, hk, hz⟩ := open_ints' (by simpa [Value.cells] using hf)
  exact ⟨k, s, hk, hz⟩
end
abbrev laidL : List (String × DataW Unit) := [("math/bits.deBruijn32tab", Rows.laid_math_bits_deBruijn32tab), ("math/bits.deBruijn64tab", Rows.laid_math_bits_deBruijn64tab)]
theorem g64 : Tryz.prog.globalNamed "math/bits.deBruijn64tab" = some 1 := by kernel_rfl
theorem t64 : (Tryz.prog.globals[1]?).map (·.type) = some 183 := by kernel_rfl
theorem u64t : ∃ e, Tryz.prog.underlying 183 = some (.array 64 e) ∧ Tryz.prog.underlying e = some (.int .u8) ∧ Tryz.prog.cellsOf e = 1 ∧ Tryz.prog.cellsOf 183 = 64 := ⟨5, by kernel_rfl, by kernel_rfl, by kernel_rfl, by kernel_rfl⟩
def tab64 : List Int := Lib.deBruijn64tab.map Int.ofNat
theorem laid64 : (Rows.laid_math_bits_deBruijn64tab : DataW Unit) = Lib.tabData .u8 tab64 := rfl
theorem door_met (os : Os) (args : Array Value) : laidMetH Tryz.prog laidL ((World.doorLaid Tryz.prog 400 os).forCall (fun _ _ => 0) ⟨#[], args, []⟩).memory :=
  laidMetH_of_parts3 (fuel := 8) (laidMet_of_run' 8 (by kernel_rfl) (by kernel_rfl)) (by kernel_rfl) (by kernel_rfl)
theorem tab_of_laid {W : World} (h : laidMetH Tryz.prog laidL W) : Tab W := by
  rw [MakeChecks.laidMetH_plain _ _ _ (by kernel_rfl)] at h
  obtain ⟨ps, ⟨g0, t0, cs0, f0, p0, q0, hg0, ht0, hv0, hd0, ⟨g1, t1, cs1, f1, p1, q1, hg1, ht1, hv1, hd1, _, _⟩, _⟩, _, _⟩ := h
  obtain rfl := Option.some.inj (g64.symm.trans hg1)
  obtain rfl := Option.some.inj (t64.symm.trans ht1)
  obtain ⟨e, e1, e2, e3, e4⟩ := u64t
  rw [laid64] at hd1
  have hcs := Lib.cells_of_tab e1 e2 e3 e4 hd1
  intro j hj
  rw [World.var?_cell g64 hv1 j]
  have : cs1 = (tab64.map fun z => Value.int .u8 z).toArray := by rw [← hcs]
  rw [this]
  have hj2 : j < (tab64.map fun z => Value.int .u8 z).length := by simpa [tab64] using hj
  simp [tab64, List.getD_eq_getElem?_getD, List.getElem?_eq_getElem hj]
end Go.Proofs.YtmnejmpjmniiiaaGreatDoor
namespace Go.Proofs.YtmnejmpjmniiiaaGreatDoor
open Go.RowKit Go.Sea Go.Lib
theorem below_alloc (w : World) (o : Obj) : Below w.heap.size w (w.alloc o) := by
  refine ⟨rfl, rfl, rfl, by simp, fun k hk => ?_⟩
  exact Below.heap_alloc _ _ _ hk
theorem sl22F : Tryz.prog.underlying 22 = some (.slice 66) := by kernel_rfl
theorem by33F : (Tryz.prog.info? 66).map (fun i => (i.size, i.bytes, i.zero.map (·.cells.size))) = some (9, 104, some 9) := by kernel_rfl
set_option maxHeartbeats 4000000 in
set_option maxRecDepth 100000 in
set_option maxHeartbeats 2000000 in
theorem clone_nilF (cap : Nat) (w : World) : Calls Tryz.prog 82 #[.slice none 0 cap] w fun e w' => e = .returned (.slice none 0 0) ∧ w' = w := by
  have q : (binOp .eql 22 (.slice none 0 cap) (.slice none 0 0)).run Tryz.prog w = .ok (.bool true) w := run_eql_slice_nil w 22 66 none 0 cap 0 0 sl22F
  go_enter Tryz.func82, Tryz.ntmps82
  go_wp2
  go_ret
  exact ⟨rfl, rfl⟩
set_option maxHeartbeats 4000000 in
set_option maxRecDepth 100000 in
theorem clone_someF (p : Addr) (n cap : Nat) (w w' : World) (u : Value) (h : ∀ ty, (Builtin.append_ #[22,22] ty #[.slice (some ⟨w.heap.size, 0, none⟩) 0 0, .slice (some p) n cap]).run Tryz.prog (w.alloc (.cells #[] 66)) = .ok u w') : Calls Tryz.prog 82 #[.slice (some p) n cap] w fun e w'' => e = .returned u ∧ w'' = w' := by
  have q : (binOp .eql 22 (.slice (some p) n cap) (.slice none 0 0)).run Tryz.prog w = .ok (.bool false) w := run_eql_slice_nil w 22 66 (some p) n cap 0 0 sl22F
  go_enter Tryz.func82, Tryz.ntmps82
  go_wp2_with (at_builtin; refine Lib.wpList_append_run _ rfl _ _ _ _ rfl _ _ rfl rfl _ _ (h _) ?_)
  all_goals (go_ret; exact ⟨rfl, rfl⟩)
set_option maxHeartbeats 2000000 in
theorem clone_nF (n : Nat) (f : Nat → Nat → IV) (hn : n ≤ 1000) : CallsN Tryz.prog 82 [.one (.iv (.lst 9 n f))] (lstC f 9 n 0) (fun i => .t (.one (.slc i 0 n 9))) := by
  intro H i hH w0 Z0 J Z s a w vs R hs hv
  subst hs
  obtain ⟨vs⟩ := vs
  match vs, hv with
  | [v], ⟨hv, _⟩ =>
    have hv : Rd w Z v (.lst 9 n f) := hv
    have hlen : (lstC f 9 n 0).length = n * 9 := lstC_len f 9 n 0
    have empty : ∀ (p : Addr) (cap : Nat), n = 0 → v = .slice (some p) 0 cap → Calls Tryz.prog 82 #[v] w fun e w' => ∃ v J' Z', e = .returned v ∧ Rel w0 Z0 J' Z' { s with heap := hset s.heap i (lstC f 9 n 0) } a w' ∧ ARel w' J' Z' v (.t (.one (.slc i 0 n 9))) := fun p cap h0 ev => by
      subst h0; subst ev
      obtain ⟨ii, h33⟩ : ∃ ii, Tryz.prog.info? 66 = some ii := by
        have := by33F
        cases h : Tryz.prog.info? 66 with
        | none => rw [h] at this; cases this
        | some i => exact ⟨i, rfl⟩
      refine (clone_someF p 0 cap w _ _ fun ty => run_append_none sl22F h33 _ _ 0 0 cap (Nat.le_refl _)).mono fun e w' ⟨he, hw⟩ => ?_
      subst hw
      have R1 := R.new (nid := i) (cs := []) (c := #[]) (e := 66) (H := hset s.heap i []) hH (hget_hset_same _ _ _) (fun q hq => hget_hset_ne _ _ _ _ hq) (by simp [All2])
      exact ⟨_, _, _, he, R1, Or.inr ⟨w.heap.size, 0, #[], 66, rfl, by simp [jset], Nat.zero_le _, Nat.zero_le _, heap_alloc_new w _, by simp⟩⟩
    have hv0 := hv
    cases hv with
    | nil p cap =>
      cases p with
      | none =>
        refine (clone_nilF cap w).mono fun e w' ⟨he, hw⟩ => ?_
        subst hw
        exact ⟨_, J, Z, he, R.newEmpty (nid := i) hH (by rw [hget_hset_same]; rfl) (fun q hq => hget_hset_ne _ _ _ _ hq), Or.inl ⟨rfl, rfl⟩⟩
      | some p => exact empty p cap rfl rfl
    | lst b off _ cap _ _ X hz hc hm h1 h2 =>
      by_cases h0 : n = 0
      · exact empty ⟨b, off, none⟩ cap h0 (by rw [h0])
      · obtain ⟨hR1, G⟩ := R.call (below_alloc w (.cells #[] 66))
        have hv1 : TRel (w.alloc (.cells #[] 66)) J (fun b => Z b ∨ (w.heap.size ≤ b ∧ b < (w.alloc (.cells #[] 66)).heap.size)) (.slice (some ⟨b, off, none⟩) n cap) (.one (.iv (.lst 9 n f))) := CRel.grow G (CV.ok_all (.iv (.lst 9 n f))) hv0
        obtain ⟨ii, z, t1, t2, t3, t4, t5, t6, t7⟩ := slD_spec (P := Tryz.prog) (t := 22) (e := 66) (n := 9) (b := 104) (by kernel_rfl)
        rcases src_cells hR1 (size := 9) (m := n) (nd := True) (x := .one (.iv (.lst 9 n f))) (ns := lstC f 9 n 0) (by simp [srcF]) trivial hv1 with ⟨h, _⟩ | ⟨hpos, b2, off2, cap2, news, e2, n1, n2, n3, n4⟩
        · exact absurd h h0
        · cases e2
          have hrun := fun ty => run_append_grow (P := Tryz.prog) (w.alloc (.cells #[] 66)) 22 ty 66 ii z t1 t2 t3 ⟨w.heap.size, 0, none⟩ 0 0 [] (by simp) (fun j v h => by simp at h) ⟨b, off, none⟩ n cap news (by rw [n1, t5]) n2 (by omega) (by omega) (by
            rw [t6]; exact growslice_fits (by omega) (by omega))
          simp only [Nat.zero_add] at hrun
          have hsz := grownCap_ge (w.alloc (.cells #[] 66)) n 0 66
          have hmx := grownCap_le_maxLen (w.alloc (.cells #[] 66)) n 0 66 (by unfold maxLen; omega)
          generalize grownCap (w.alloc (.cells #[] 66)) n 0 66 = G at hrun hsz hmx
          have hC : G * 9 ≤ (([] : List Value).toArray ++ news.toArray ++ Builtin.zeroCells z.cells (G - n)).size := by
            simp only [Array.size_append, size_zeroCells, t4, List.size_toArray, n1, List.length_nil]
            omega
          have hD : All2 (CRel (w.alloc (.cells #[] 66)) J (fun b => Z b ∨ (w.heap.size ≤ b ∧ b < (w.alloc (.cells #[] 66)).heap.size))) ((([] : List Value).toArray ++ news.toArray ++ Builtin.zeroCells z.cells (G - n)).toList.take (lstC f 9 n 0).length) (lstC f 9 n 0) := by
            rw [Array.toList_append, Array.toList_append, List.nil_append, List.take_append_of_le_length (by simp; omega), List.take_of_length_le (by simp; omega)]
            exact n4
          generalize ([] : List Value).toArray ++ news.toArray ++ Builtin.zeroCells z.cells (G - n) = C at hrun hC hD
          have cl := clone_someF ⟨b, off, none⟩ n cap w _ _ hrun
          have R2 := (hR1.drew).new (nid := i) (cs := lstC f 9 n 0) (c := C) (e := 66) (H := hset s.heap i (lstC f 9 n 0)) hH (hget_hset_same _ _ _) (fun q hq => hget_hset_ne _ _ _ _ hq) (all2_drew hD)
          have hA := heap_alloc_new (w.alloc (.cells #[] 66)).drew (.cells C 66)
          generalize hw1 : w.alloc (.cells #[] 66) = w1 at cl R2 hA
          refine cl.mono fun e w' ⟨he, hw⟩ => ?_
          subst hw
          exact ⟨_, _, _, he, R2, Or.inr ⟨_, _, _, 66, rfl, by simp [jset], hsz, hmx, hA, by rw [Nat.zero_add]; exact hC⟩⟩
end Go.Proofs.YtmnejmpjmniiiaaGreatDoor
namespace Go.Proofs
open Go.Shelf
def Tryz.laysNm727_ren : Go.Shelf.Ren := ⟨fun | 27 => 111 | 28 => 138 | 29 => 139 | n => n, fun | 25 => 88 | 3 => 3 | 27 => 153 | 22 => 155 | 4 => 4 | 53 => 182 | 0 => 0 | 5 => 5 | 54 => 183 | n => n, fun | 0 => 0 | 1 => 1 | n => n⟩
theorem Tryz.laysNm727 : Go.Proofs.Lays7.n27 Tryz.prog Tryz.laysNm727_ren := {
  mixed := by kernel_rfl
  f27 := Tryz.func111.trans (congrArg some (by kernel_rfl))
  f28 := Tryz.func138.trans (congrArg some (by kernel_rfl))
  f29 := Tryz.func139.trans (congrArg some (by kernel_rfl))
  t0 := Tryz.underlying0
  a0 := Tryz.isAgg0
  z0 := Tryz.sizeOf0
  v0 := Tryz.zeroValue0
  i0 := by kernel_rfl
  t3 := Tryz.underlying3
  a3 := Tryz.isAgg3
  z3 := Tryz.sizeOf3
  v3 := Tryz.zeroValue3
  i3 := by kernel_rfl
  t4 := Tryz.underlying4
  a4 := Tryz.isAgg4
  z4 := Tryz.sizeOf4
  v4 := Tryz.zeroValue4
  i4 := by kernel_rfl
  t5 := Tryz.underlying5
  a5 := Tryz.isAgg5
  z5 := Tryz.sizeOf5
  v5 := Tryz.zeroValue5
  i5 := by kernel_rfl
  t22 := Tryz.underlying155
  a22 := Tryz.isAgg155
  z22 := Tryz.sizeOf155
  v22 := Tryz.zeroValue155
  i22 := by kernel_rfl
  t25 := Tryz.underlying88
  a25 := Tryz.isAgg88
  z25 := Tryz.sizeOf88
  v25 := Tryz.zeroValue88
  i25 := by kernel_rfl
  t27 := Tryz.underlying153
  a27 := Tryz.isAgg153
  z27 := Tryz.sizeOf153
  v27 := Tryz.zeroValue153
  i27 := by kernel_rfl
  t53 := Tryz.underlying182
  a53 := Tryz.isAgg182
  z53 := Tryz.sizeOf182
  v53 := Tryz.zeroValue182
  i53 := by kernel_rfl
  t54 := Tryz.underlying183
  a54 := Tryz.isAgg183
  z54 := Tryz.sizeOf183
  g0 := by kernel_rfl
  g1 := by kernel_rfl }
open Go.RowKit in
theorem Tryz.bits_TrailingZeros (x : Nat) (hx : x < 18446744073709551616) (w : World) (hT : x ≠ 0 → TabAt 1 Lib.deBruijn64tab w) :
    Calls Tryz.prog 111 #[.int .u64 x] w fun e w' => e = .returned (.int .i64 (Lib.ctz 64 x)) ∧ w' = w := Any7.bits_TrailingZeros Tryz.laysNm727 x hx w hT
end Go.Proofs
set_option maxRecDepth 100000
set_option maxHeartbeats 4000000
namespace Go.Proofs.YtmnejmpjmniiiaaGreatDoor
open Go.RowKit Go.Sea
open Nat renaming reduceAdd → xA, reduceLT → xL, reduceLeDiff → xD, reduceEqDiff → xE, reduceMul → xM, reduceSub → xS, reduceBEq → xB
theorem ar_71 : arD Tryz.prog 71 = none := by kernel_rfl
theorem fnok_100 : fnOk Tryz.prog 100 = true := by kernel_rfl
theorem fnok_110 : fnOk Tryz.prog 110 = true := by kernel_rfl
theorem fnok_111 : fnOk Tryz.prog 111 = true := by kernel_rfl
theorem fnok_112 : fnOk Tryz.prog 112 = true := by kernel_rfl
theorem fnok_113 : fnOk Tryz.prog 113 = true := by kernel_rfl
theorem fnok_66 : fnOk Tryz.prog 66 = true := by kernel_rfl
theorem fnok_81 : fnOk Tryz.prog 81 = true := by kernel_rfl
theorem fnok_83 : fnOk Tryz.prog 83 = true := by kernel_rfl
theorem fnok_99 : fnOk Tryz.prog 99 = true := by kernel_rfl
theorem in_153 : inD Tryz.prog 153 = some .u32 := by kernel_rfl
theorem in_3 : inD Tryz.prog 3 = some .i64 := by kernel_rfl
theorem of_73_1 : offOf Tryz.prog 73 1 = some 1 := by kernel_rfl
theorem of_73_3 : offOf Tryz.prog 73 3 = some 3 := by kernel_rfl
theorem sl_71 : slD Tryz.prog 71 = some (1, 8, 89) := by kernel_rfl
theorem ty_155 : tyD Tryz.prog 155 = some (false, 1) := by kernel_rfl
theorem ty_68 : tyD Tryz.prog 68 = some (false, 1) := by kernel_rfl
theorem ty_71 : tyD Tryz.prog 71 = some (false, 1) := by kernel_rfl
theorem ty_88 : tyD Tryz.prog 88 = some (false, 1) := by kernel_rfl
theorem ty_89 : tyD Tryz.prog 89 = some (false, 1) := by kernel_rfl
theorem zc_27 : zeroC Tryz.prog 27 = some [.iv (.g (.slice none 0 0))] := by kernel_rfl
theorem zc_89 : zeroC Tryz.prog 89 = some [.iv (.g (.int .u64 0))] := by kernel_rfl
attribute [go_sem] ar_71 fnok_111 fnok_112 fnok_113 fnok_66 fnok_81 fnok_83 fnok_99 in_153 in_3 of_73_1 of_73_3 sl_71 ty_155 ty_68 ty_71 ty_88 ty_89 zc_27 zc_89
theorem tz_p (s : Nat) (hs : s < 1024) : CallsP Tryz.prog 111 [.one (.g (.int .u64 (s : Int)))] (.t (.one (.g (.int .i64 (cz s : Nat))))) :=
  CallsP_vals rfl rfl fun w hT => (Tryz.bits_TrailingZeros s (by omega) w (fun _ => hT)).mono fun e w' ⟨he, hw⟩ => ⟨he, hw ▸ Below.refl _ _⟩
structure ChS where
  x : CaS
  P : Nat → Nat
  F : Nat → Nat
  c : Nat
  C : Nat → Nat → IV
def uF (P : Nat → Nat) (i : Nat) (_ : Nat) : IV := .g (.int .u64 (P i : Int))
def chC : ChS → Nat → IV
  | K, 0 => .lst 9 K.x.n (featF K.x.f)
  | K, 1 => .lst 2 K.x.m (stF K.x.S)
  | K, 2 => .lst 1 K.x.mo (ptF K.x.O)
  | K, 3 => .lst 1 K.x.m (uF K.P)
  | K, 4 => .lst 1 K.x.m (uF K.F)
  | K, _ + 5 => .lst 4 K.c K.C
theorem chC0 (K : ChS) : chC K 0 = .lst 9 K.x.n (featF K.x.f) := rfl
theorem chC1 (K : ChS) : chC K 1 = .lst 2 K.x.m (stF K.x.S) := rfl
theorem chC2 (K : ChS) : chC K 2 = .lst 1 K.x.mo (ptF K.x.O) := rfl
theorem chC3 (K : ChS) : chC K 3 = .lst 1 K.x.m (uF K.P) := rfl
theorem chC4 (K : ChS) : chC K 4 = .lst 1 K.x.m (uF K.F) := rfl
theorem chC5 (K : ChS) : chC K 5 = .lst 4 K.c K.C := rfl
theorem uF0 (P : Nat → Nat) (i o : Nat) : uF P i o = .g (.int .u64 (P i : Int)) := rfl
structure ChS.Ok (K : ChS) : Prop where
  x : K.x.Ok
  m : K.x.m ≤ 10
  mo : K.x.mo = K.x.m
  P : ∀ i, i < K.x.m → K.P i < 1024
  F : ∀ i, i < K.x.m → K.F i < 1024
  v : feaB K.x.n K.x.f = true
def cnt (s : Nat) : Nat := (bl s).length
def inS (m s : Nat) : Prop := s < 2 ^ m
theorem inS_lt {m s : Nat} (hm : m ≤ 10) (h : inS m s) : s < 1024 := Nat.lt_of_lt_of_le h (show 2 ^ m ≤ 2 ^ 10 from Nat.pow_le_pow_right (by decide) hm)
theorem inS_bit {m s i : Nat} (h : inS m s) (hi : s.testBit i = true) : i < m := by
  cases Nat.lt_or_ge i m with
  | inl g => exact g
  | inr g =>
    rw [Nat.testBit_lt_two_pow (Nat.lt_of_lt_of_le h (Nat.pow_le_pow_right (by decide) g))] at hi; cases hi
theorem inS_mem {m s i : Nat} (h : inS m s) (hi : i ∈ bl s) : i < m := inS_bit h (bl_mem.1 hi).2
def rdI (s : Nat) (z : List Nat × Nat) : Prop := z.1 ++ bl z.2 = bl s ∧ z.2 < 1024
theorem rdI_0 {s : Nat} (h : s < 1024) : rdI s ([], s) := ⟨rfl, h⟩
theorem rdI_s {s r : Nat} {l : List Nat} (h : rdI s (l, r)) (h0 : 0 < r) : rdI s (l ++ [cz r], r &&& (r - 1)) ∧ r &&& (r - 1) < r := by
  have e := bl_all r h.2 h0
  refine ⟨⟨?_, Nat.lt_trans e.2.1 h.2⟩, e.2.1⟩
  have := h.1
  simp only at this ⊢
  rw [e.1] at this
  rw [List.append_assoc]; exact this
theorem rdI_e {s : Nat} {l : List Nat} (h : rdI s (l, 0)) : l = bl s := by have := h.1; simp only [bl_z, List.append_nil] at this; exact this
theorem rdI_cz {s r m : Nat} {l : List Nat} (hs : inS m s) (h : rdI s (l, r)) (h0 : 0 < r) : cz r < m := by
  refine inS_mem hs ?_
  rw [← h.1]; simp only
  rw [(bl_all r h.2 h0).1]; simp
theorem rdI_le {s r : Nat} {l : List Nat} (h : rdI s (l, r)) : l.length ≤ 10 := by
  have h1 : l.length ≤ (bl s).length := by rw [← h.1]; simp
  have h2 : (bl s).length ≤ 10 := by have := List.length_filter_le s.testBit (List.range 10); simpa [bl] using this
  omega
theorem u_predW {r : Nat} (h0 : 0 < r) (h : r < 1024) : bits .and .u64 (r : Int) (IntKind.u64.wrap ((r : Int) - 1)) = ((r &&& (r - 1) : Nat) : Int) := by
  rw [show (r : Int) - 1 = ((r - 1 : Nat) : Int) by omega, wrN _ (by omega)]; exact u_and (by omega) (by omega)
theorem u_shl6 {k : Nat} (h : k < 64) : IntKind.u64.wrap (1 * 2 ^ (min k 64)) = ((2 ^ k : Nat) : Int) := u_shl h
def wrL (S : Nat → StepS) (l : List Nat) : List Int := l.map fun i => (S i).nu
theorem wrL_s (S : Nat → StepS) (l : List Nat) (i : Nat) : wrL S (l ++ [i]) = wrL S l ++ [(S i).nu] := by simp [wrL]
theorem wrL_0 (S : Nat → StepS) : wrL S [] = [] := rfl
theorem wrL_len (S : Nat → StepS) (l : List Nat) : (wrL S l).length = l.length := by simp [wrL]
def orL (P : Nat → Nat) (a : Nat) (l : List Nat) : Nat := l.foldl (fun a i => a ||| P i) a
theorem orL_s (P : Nat → Nat) (a : Nat) (l : List Nat) (i : Nat) : orL P a (l ++ [i]) = orL P a l ||| P i := by simp [orL]
theorem orL_lt {P : Nat → Nat} : ∀ {l : List Nat} {a : Nat}, a < 1024 → (∀ i, i ∈ l → P i < 1024) → orL P a l < 1024
  | [], _, h, _ => h
  | i :: l, a, h, hp => orL_lt (l := l) (or_lt h (hp i (List.mem_cons_self ..))) fun j hj => hp j (List.mem_cons_of_mem _ hj)
theorem cloN_orL (P : Nat → Nat) (s : Nat) : cloN P s = orL P s (bl s) := rfl
theorem u_orP {a p : Nat} (h : a < 1024) (hp : p < 1024) : bits .or .u64 (a : Int) (p : Int) = ((a ||| p : Nat) : Int) := u_or (by omega) (by omega)
theorem u_all {m : Nat} (h : m ≤ 10) : IntKind.u64.wrap (IntKind.u64.wrap (1 * 2 ^ (min (m : Int).toNat IntKind.u64.bits)) - 1) = ((2 ^ m - 1 : Nat) : Int) := by
  have h2 : 2 ^ m ≤ 2 ^ 10 := Nat.pow_le_pow_right (by decide) h
  have h0 : 0 < 2 ^ m := Nat.pow_pos (by decide)
  rw [u_shl (by omega), IntKind.wrap_u64]; omega
def lsA (a : Nat → Int) (j : Nat) : Int := if j = 0 then 0 else a (j - 1)
theorem lsA_0 (a : Nat → Int) : lsA a 0 = 0 := rfl
theorem lsA_s (a : Nat → Int) (j : Nat) : lsA a (j + 1) = a j := by unfold lsA; rw [if_neg (by omega)]; rfl
def setP (S : Nat → StepS) (m : Nat) (a : Nat → Int) (j : Nat) : Prop := ixM S m (a j) < m ∧ lsA a j < a j
instance (S : Nat → StepS) (m : Nat) (a : Nat → Int) (j : Nat) : Decidable (setP S m a j) := by unfold setP; infer_instance
def setB (S : Nat → StepS) (m q : Nat) (a : Nat → Int) : Bool := decide (∀ j, j < q → setP S m a j)
def rdN (S : Nat → StepS) (m : Nat) (a : Nat → Int) : Nat → Nat
  | 0 => 0
  | j + 1 => rdN S m a j ||| 2 ^ ixM S m (a j)
theorem rdN_0 (S : Nat → StepS) (m : Nat) (a : Nat → Int) : rdN S m a 0 = 0 := rfl
theorem rdN_in {S : Nat → StepS} {m : Nat} {a : Nat → Int} : ∀ {j : Nat}, (∀ i, i < j → setP S m a i) → inS m (rdN S m a j)
  | 0, _ => Nat.pow_pos (by decide)
  | j + 1, h => Nat.or_lt_two_pow (rdN_in fun i hi => h i (by omega)) (Nat.pow_lt_pow_right (by decide) (h j (by omega)).1)
def rdV (S : Nat → StepS) (m q : Nat) (a : Nat → Int) : Nat := if setB S m q a = true then rdN S m a q else 0
theorem set_f {S : Nat → StepS} {m q : Nat} {a : Nat → Int} {j : Nat} (hj : (j : Int) < q) (h : ¬ setP S m a j) : (0 : Int) = ((rdV S m q a : Nat) : Int) ∧ false = setB S m q a := by
  have e : setB S m q a = false := decide_eq_false fun g => h (g j (by omega))
  unfold rdV; rw [e]; exact ⟨rfl, rfl⟩
theorem set_t {S : Nat → StepS} {m q : Nat} {a : Nat → Int} {j : Nat} (hj : (q : Int) ≤ j) (hj2 : j ≤ q) (h : ∀ i, i < j → setP S m a i) : rdN S m a j = rdV S m q a ∧ true = setB S m q a := by
  have e0 : j = q := by omega
  subst e0
  have e : setB S m j a = true := decide_eq_true h
  unfold rdV; rw [e]; exact ⟨rfl, rfl⟩
def ixV (S : Nat → StepS) (m : Nat) (x : Int) : Int := if ixM S m x < m then ixM S m x else -1
theorem ixV_h {S : Nat → StepS} {m t : Nat} {x : Int} (ht : (t : Int) < m) (h : (S t).nu = x) (g : ∀ j, j < t → (S j).nu ≠ x) : (t : Int) = ixV S m x := by
  have e : ixM S m x = t := fstB_h (b := fun i => decide ((S i).nu = x)) (decide_eq_true h) (fun j hj => decide_eq_false (g j hj)) m (by omega)
  unfold ixV; rw [e, if_pos (by omega)]
theorem ixV_n {S : Nat → StepS} {m t : Nat} {x : Int} (ht : (m : Int) ≤ t) (g : ∀ j, j < t → (S j).nu ≠ x) : -1 = ixV S m x := by
  have e : ixM S m x = m := fstB_t m fun j hj => decide_eq_false (g j (by omega))
  unfold ixV; rw [e, if_neg (by omega)]
theorem ixV_cs (S : Nat → StepS) (m : Nat) (x : Int) : (ixV S m x = (ixM S m x : Nat) ∧ ixM S m x < m) ∨ (ixV S m x = -1 ∧ m ≤ ixM S m x) := by
  unfold ixV
  split
  · exact Or.inl ⟨rfl, by assumption⟩
  · exact Or.inr ⟨rfl, by omega⟩
theorem set_f1 {S : Nat → StepS} {m : Nat} {a : Nat → Int} {j : Nat} (h : m ≤ ixM S m (a j)) : ¬ setP S m a j := fun g => by have := g.1; omega
theorem set_f2 {S : Nat → StepS} {m : Nat} {a : Nat → Int} {j : Nat} (h : a j ≤ lsA a j) : ¬ setP S m a j := fun g => by have := g.2; omega
theorem rdN_or {S : Nat → StepS} {m : Nat} (hm : m ≤ 10) {a : Nat → Int} {j : Nat} (h : ∀ i, i < j → setP S m a i) (hk : ixM S m (a j) < m) : bits .or .u64 (rdN S m a j : Int) ((2 ^ ixM S m (a j) : Nat) : Int) = ((rdN S m a (j + 1) : Nat) : Int) := by
  have h1 := inS_lt hm (rdN_in h)
  have h2 := p2_lt (k := ixM S m (a j)) (by omega)
  exact u_or (by omega) (by omega)
theorem orL_or {P : Nat → Nat} {a : Nat} {l : List Nat} {i : Nat} (h : orL P a l < 1024) (hp : P i < 1024) : bits .or .u64 (orL P a l : Int) (P i : Int) = ((orL P a (l ++ [i]) : Nat) : Int) := by rw [orL_s]; exact u_orP h hp
theorem rdI_mem {s r m : Nat} {l : List Nat} (hs : inS m s) (h : rdI s (l, r)) : ∀ i, i ∈ l → i < m := fun i hi => inS_mem hs (by rw [← h.1]; exact List.mem_append_left _ hi)
theorem orL_0 (P : Nat → Nat) (a : Nat) : orL P a [] = a := rfl
theorem oc64_p (s : Nat) (hs : s < 1024) : CallsP Tryz.prog 113 [.one (.g (.int .u64 ((s : Int))))] (.t (.one (.g (.int .i64 ((cnt s : Nat)))))) := by
  refine CallsP_of Tryz.func113 rfl (by rw [Tryz.ntmps113]; simp) ?_
  simp only [Tryz.ntmps113, zM, PT.tv, argEnv, Nat.zero_add, Nat.reduceAdd]
  repeat' (first
 | ((with_reducible show AW _ _ _ _); first
 | (with_reducible first | refine aS (fun K hK => ?_) | refine aI ?_ | refine aX ?_ | refine aT ?_ | refine aC ?_ | refine aB ?_)
 | (first
 | (with_reducible first | refine aP 0 [0] ?_ | refine aP 1 [0] ?_ | refine aP 2 [0] ?_ | refine aP 3 [0] ?_ | refine aP 4 [0] ?_ | refine aP 5 [0] ?_ | refine aP 6 [0] ?_ | refine aP 7 [0] ?_)))
 | ((first | (with_reducible refine And.intro ?_ ?_) | (with_reducible refine Need.mk ?_)); focus (first | exact True.intro | (with_reducible assumption) | omega | (refine ⟨?_, ?_⟩ <;> omega) | (intro _; first | exact True.intro | (with_reducible assumption) | omega) | (intros; (repeat' (first | exact True.intro | omega | (with_reducible assumption) | (with_reducible refine And.intro ?_ ?_))); done) | (simp (disch := omega) only [Bool.and_eq_true, Bool.or_eq_true, decide_eq_true_eq, bne_iff_ne, ne_eq] at *; first | done | omega | (intros; omega)) | (simp; done) | (simp; omega) | (simp +contextual; done) | (intro h; rw [h]; rfl) | (intro hq; have hq2 := hq; simp only [Bool.and_eq_true, Bool.or_eq_true, Bool.not_eq_true', Bool.not_not, Bool.not_eq_false', decide_eq_true_eq, decide_eq_false_iff_not] at hq2; (repeat' (first | exact hq | (with_reducible refine And.intro ?_ ?_) | omega | (simp_all; done))); done) | (intros; simp_all; done)))
 | (with_reducible refine retK_n ?_)
 | (with_reducible refine retK_n' ?_)
 | (with_reducible refine retH_n rfl rfl rfl ?_)
 | (with_reducible refine retH_n' rfl rfl rfl ?_)
 | ((with_reducible show condN _ _ _ _ _ _); first
 | ((with_reducible refine condN_t ?_ ?_) <;> (intro hc; (try simp only [zB, zC, reduceCtorEq] at hc); (try (exfalso; first | contradiction | omega)))))
 | ((fail_if_success (with_reducible show AW _ _ _ _)); simp (maxSteps := 2000000) only [go_sem, reduceIte, reduceCtorEq, xA, xL, xD, xE, xM, xS, xB, Tryz.f113])
 | ((fail_if_success (with_reducible show AW _ _ _ _)); simp (disch := omega) only [seaWrap, seaDiv, seaMod])
 | ((with_reducible refine hK _ ?_); clear hK K))
  all_goals (first | (revert hs; revert s; decide +kernel) | skip)
theorem oc_p (s : Nat) (hs : s < 1024) : CallsP Tryz.prog 83 [.one (.g (.int .u64 ((s : Int))))] (.t (.one (.g (.int .i64 ((cnt s : Nat)))))) := by
  refine CallsP_of Tryz.func83 rfl (by rw [Tryz.ntmps83]; simp) ?_
  simp only [Tryz.ntmps83, zM, PT.tv, argEnv, Nat.zero_add, Nat.reduceAdd]
  repeat' (first
 | ((with_reducible show AW _ _ _ _); first
 | (with_reducible first | refine aS (fun K hK => ?_) | refine aI ?_ | refine aX ?_ | refine aT ?_ | refine aC ?_ | refine aB ?_)
 | (first
 | (with_reducible first | refine aP 0 [0] ?_ | refine aP 1 [0] ?_ | refine aP 2 [0] ?_)))
 | ((first | (with_reducible refine And.intro ?_ ?_) | (with_reducible refine Need.mk ?_)); focus (first | exact True.intro | (with_reducible assumption) | omega | (refine ⟨?_, ?_⟩ <;> omega) | (intro _; first | exact True.intro | (with_reducible assumption) | omega) | (intros; (repeat' (first | exact True.intro | omega | (with_reducible assumption) | (with_reducible refine And.intro ?_ ?_))); done) | (simp (disch := omega) only [Bool.and_eq_true, Bool.or_eq_true, decide_eq_true_eq, bne_iff_ne, ne_eq] at *; first | done | omega | (intros; omega)) | (simp; done) | (simp; omega) | (simp +contextual; done) | (intro h; rw [h]; rfl) | (intro hq; have hq2 := hq; simp only [Bool.and_eq_true, Bool.or_eq_true, Bool.not_eq_true', Bool.not_not, Bool.not_eq_false', decide_eq_true_eq, decide_eq_false_iff_not] at hq2; (repeat' (first | exact hq | (with_reducible refine And.intro ?_ ?_) | omega | (simp_all; done))); done) | (intros; simp_all; done)))
 | (with_reducible refine retK_n ?_)
 | (with_reducible refine retK_n' ?_)
 | (with_reducible refine retH_n rfl rfl rfl ?_)
 | (with_reducible refine retH_n' rfl rfl rfl ?_)
 | ((with_reducible show condN _ _ _ _ _ _); first
 | ((with_reducible refine condN_t ?_ ?_) <;> (intro hc; (try simp only [zB, zC, reduceCtorEq] at hc); (try (exfalso; first | contradiction | omega)))))
 | ((with_reducible show callN _ _ _ _ _ _ _ _ _ _); first
 | (refine callN_q (k := 113) fnok_113 (oc64_p s hs) ?_ ?_))
 | ((fail_if_success (with_reducible show AW _ _ _ _)); simp (maxSteps := 2000000) only [go_sem, reduceIte, reduceCtorEq, xA, xL, xD, xE, xM, xS, xB, Tryz.f83])
 | ((fail_if_success (with_reducible show AW _ _ _ _)); simp (disch := omega) only [seaWrap, seaDiv, seaMod])
 | ((with_reducible refine hK _ ?_); clear hK K))
theorem size_p (s : Nat) (hs : s < 1024) : CallsP Tryz.prog 51 [.one (.g (.int .u64 ((s : Int))))] (.t (.one (.g (.int .i64 ((cnt s : Nat)))))) := by
  refine CallsP_of Tryz.func51 rfl (by rw [Tryz.ntmps51]; simp) ?_
  simp only [Tryz.ntmps51, zM, PT.tv, argEnv, Nat.zero_add, Nat.reduceAdd]
  repeat' (first
 | ((with_reducible show AW _ _ _ _); first
 | (with_reducible first | refine aS (fun K hK => ?_) | refine aI ?_ | refine aX ?_ | refine aT ?_ | refine aC ?_ | refine aB ?_)
 | (first
 | (with_reducible first | refine aP 0 [0] ?_ | refine aP 1 [0] ?_)))
 | ((first | (with_reducible refine And.intro ?_ ?_) | (with_reducible refine Need.mk ?_)); focus (first | exact True.intro | (with_reducible assumption) | omega | (refine ⟨?_, ?_⟩ <;> omega) | (intro _; first | exact True.intro | (with_reducible assumption) | omega) | (intros; (repeat' (first | exact True.intro | omega | (with_reducible assumption) | (with_reducible refine And.intro ?_ ?_))); done) | (simp (disch := omega) only [Bool.and_eq_true, Bool.or_eq_true, decide_eq_true_eq, bne_iff_ne, ne_eq] at *; first | done | omega | (intros; omega)) | (simp; done) | (simp; omega) | (simp +contextual; done) | (intro h; rw [h]; rfl) | (intro hq; have hq2 := hq; simp only [Bool.and_eq_true, Bool.or_eq_true, Bool.not_eq_true', Bool.not_not, Bool.not_eq_false', decide_eq_true_eq, decide_eq_false_iff_not] at hq2; (repeat' (first | exact hq | (with_reducible refine And.intro ?_ ?_) | omega | (simp_all; done))); done) | (intros; simp_all; done)))
 | (with_reducible refine retK_n ?_)
 | (with_reducible refine retK_n' ?_)
 | (with_reducible refine retH_n rfl rfl rfl ?_)
 | (with_reducible refine retH_n' rfl rfl rfl ?_)
 | ((with_reducible show condN _ _ _ _ _ _); first
 | ((with_reducible refine condN_t ?_ ?_) <;> (intro hc; (try simp only [zB, zC, reduceCtorEq] at hc); (try (exfalso; first | contradiction | omega)))))
 | ((with_reducible show callN _ _ _ _ _ _ _ _ _ _); first
 | (refine callN_q (k := 83) fnok_83 (oc_p s hs) ?_ ?_))
 | ((fail_if_success (with_reducible show AW _ _ _ _)); simp (maxSteps := 2000000) only [go_sem, reduceIte, reduceCtorEq, xA, xL, xD, xE, xM, xS, xB, Tryz.f51])
 | ((with_reducible refine hK _ ?_); clear hK K))
theorem bef_p (s t : Nat) (hs : s < 1024) (ht : t < 1024) : CallsP Tryz.prog 52 [.one (.g (.int .u64 ((s : Int)))), .one (.g (.int .u64 ((t : Int))))] (.t (.one (.g (.bool (befB s t))))) := by
  refine CallsP_of Tryz.func52 rfl (by rw [Tryz.ntmps52]; simp) ?_
  simp only [Tryz.ntmps52, zM, PT.tv, argEnv, Nat.zero_add, Nat.reduceAdd]
  repeat' (first
 | ((with_reducible show AW _ _ _ _); first
 | (with_reducible first | refine aS (fun K hK => ?_) | refine aI ?_ | refine aX ?_ | refine aT ?_ | refine aC ?_ | refine aB ?_)
 | (first
 | (with_reducible first | refine aP 0 [0,1] ?_ | refine aP 1 [0,1] ?_ | refine aP 2 [0,5] ?_)))
 | ((first | (with_reducible refine And.intro ?_ ?_) | (with_reducible refine Need.mk ?_)); focus (first | exact True.intro | (with_reducible assumption) | omega | (refine ⟨?_, ?_⟩ <;> omega) | (intro _; first | exact True.intro | (with_reducible assumption) | omega) | (intros; (repeat' (first | exact True.intro | omega | (with_reducible assumption) | (with_reducible refine And.intro ?_ ?_))); done) | (simp (disch := omega) only [Bool.and_eq_true, Bool.or_eq_true, decide_eq_true_eq, bne_iff_ne, ne_eq] at *; first | done | omega | (intros; omega)) | (simp; done) | (simp; omega) | (simp +contextual; done) | (intro h; rw [h]; rfl) | (intro hq; have hq2 := hq; simp only [Bool.and_eq_true, Bool.or_eq_true, Bool.not_eq_true', Bool.not_not, Bool.not_eq_false', decide_eq_true_eq, decide_eq_false_iff_not] at hq2; (repeat' (first | exact hq | (with_reducible refine And.intro ?_ ?_) | omega | (simp_all; done))); done) | (intros; simp_all; done)))
 | (with_reducible refine retK_n ?_)
 | (with_reducible refine retK_n' ?_)
 | (with_reducible refine retH_n rfl rfl rfl ?_)
 | (with_reducible refine retH_n' rfl rfl rfl ?_)
 | ((with_reducible show condN _ _ _ _ _ _); first
 | ((with_reducible refine condN_t ?_ ?_) <;> (intro hc; (try simp only [zB, zC, reduceCtorEq] at hc); (try (exfalso; first | contradiction | omega)))))
 | ((fail_if_success (with_reducible show AW _ _ _ _)); simp (maxSteps := 2000000) only [go_sem, reduceIte, reduceCtorEq, xA, xL, xD, xE, xM, xS, xB, Tryz.f52])
 | ((fail_if_success (with_reducible show AW _ _ _ _)); simp (disch := omega) only [seaWrap, seaDiv, seaMod])
 | ((with_reducible refine hK _ ?_); clear hK K))
  all_goals (first | exact u_bef hs ht | skip)
theorem all_p (Y : ChS) (hY : Y.Ok) : CallsP Tryz.prog 58 [.one (.ptr 6 (chC Y))] (.t (.one (.g (.int .u64 (((2 ^ Y.x.m - 1 : Nat) : Int)))))) := by
  have hm := hY.m
  refine CallsP_of Tryz.func58 rfl (by rw [Tryz.ntmps58]; simp) ?_
  simp only [Tryz.ntmps58, zM, PT.tv, argEnv, Nat.zero_add, Nat.reduceAdd]
  repeat' (first
 | (refine callK_shr rfl rfl (by omega) ?_)
 | (refine callK_shl rfl rfl (by omega) ?_)
 | (refine callDK_shl rfl rfl (by omega) ?_)
 | ((with_reducible show AW _ _ _ _); first
 | (with_reducible first | refine aS (fun K hK => ?_) | refine aI ?_ | refine aX ?_ | refine aT ?_ | refine aC ?_ | refine aB ?_)
 | (first
 | (with_reducible first | refine aP 0 [0] ?_ | refine aP 1 [0] ?_)))
 | ((first | (with_reducible refine And.intro ?_ ?_) | (with_reducible refine Need.mk ?_)); focus (first | exact True.intro | (with_reducible assumption) | omega | (refine ⟨?_, ?_⟩ <;> omega) | (intro _; first | exact True.intro | (with_reducible assumption) | omega) | (intros; (repeat' (first | exact True.intro | omega | (with_reducible assumption) | (with_reducible refine And.intro ?_ ?_))); done) | (simp (disch := omega) only [Bool.and_eq_true, Bool.or_eq_true, decide_eq_true_eq, bne_iff_ne, ne_eq] at *; first | done | omega | (intros; omega)) | (simp; done) | (simp; omega) | (simp +contextual; done) | (intro h; rw [h]; rfl) | (intro hq; have hq2 := hq; simp only [Bool.and_eq_true, Bool.or_eq_true, Bool.not_eq_true', Bool.not_not, Bool.not_eq_false', decide_eq_true_eq, decide_eq_false_iff_not] at hq2; (repeat' (first | exact hq | (with_reducible refine And.intro ?_ ?_) | omega | (simp_all; done))); done) | (intros; simp_all; done)))
 | (with_reducible refine retK_n ?_)
 | (with_reducible refine retK_n' ?_)
 | (with_reducible refine retH_n rfl rfl rfl ?_)
 | (with_reducible refine retH_n' rfl rfl rfl ?_)
 | ((with_reducible show condN _ _ _ _ _ _); first
 | ((with_reducible refine condN_t ?_ ?_) <;> (intro hc; (try simp only [zB, zC, reduceCtorEq] at hc); (try (exfalso; first | contradiction | omega)))))
 | ((fail_if_success (with_reducible show AW _ _ _ _)); simp (maxSteps := 2000000) only [go_sem, reduceIte, reduceCtorEq, xA, xL, xD, xE, xM, xS, xB, Tryz.f58, chC0, chC1, chC2, chC3, chC4, chC5, uF0, stF0, stF1, ptF0])
 | ((fail_if_success (with_reducible show AW _ _ _ _)); simp (disch := omega) only [seaWrap, seaDiv, seaMod])
 | ((with_reducible refine hK _ ?_); clear hK K))
  all_goals (first | exact u_all hm | skip)
theorem idx_p (Y : ChS) (hY : Y.Ok) (y : Int) : CallsP Tryz.prog 66 [.one (.ptr 6 (chC Y)), .one (.g (.int .i64 y))] (.t (.one (.g (.int .i64 (ixV Y.x.S Y.x.m y))))) := by
  have hm := hY.m
  refine CallsP_of Tryz.func66 rfl (by rw [Tryz.ntmps66]; simp) ?_
  simp only [Tryz.ntmps66, zM, PT.tv, argEnv, Nat.zero_add, Nat.reduceAdd]
  repeat' (first
 | ((with_reducible show AW _ _ _ _); first
 | (with_reducible first | refine aS (fun K hK => ?_) | refine aI ?_ | refine aX ?_ | refine aT ?_ | refine aC ?_ | refine aB ?_)
 | (first
 | (with_reducible first | refine aP (ops := #[⟨some 3, _, _, _, _, _⟩, _]) 0 [0,1] ?_ | refine aP (ops := #[⟨some 4, _, _, _, _, _⟩]) 0 [0,1] ?_ | refine aP (ops := #[⟨some 2, _, _, _, _, _⟩, _]) 0 [0,1] ?_ | refine aP (ops := #[⟨some 5, _, _, _, _, _⟩, _, _, _, _, _, _]) 1 [0,3] ?_ | refine aP (ops := #[⟨some 6, _, _, _, _, _⟩, _, _]) 1 [0,1] ?_ | refine aP (ops := #[⟨some 4, _, _, _, _, _⟩, _, _, _, _]) 1 [1,2] ?_ | refine aP 2 [0,1,7,8] ?_ | refine aP 3 [0,1,7,8] ?_ | refine aP 4 [0,1,5,7,8] ?_ | refine aP 5 [5] ?_ | refine aP 6 [0,1,7,8] ?_ | refine aP 7 [] ?_))
 | ((with_reducible show AW _ (Code.loop _) _ _); first
 | ((with_reducible refine aL (c := (Code.seq (Code.region 2 _ _) _)) (ι := Nat) [0,1,7] (fun t => [(8, iA .i64 (t : Int))]) (fun t => []) (fun t => t ≤ Y.x.m ∧ (∀ t', t' < t → (Y.x.S t').nu ≠ y)) (fun t => Y.x.m - t) 0 ?lg2 ?l12 ?l22 ?li2 ?lr2); (case' lg2 => rintro t _); (case' li2 => try (exact ⟨Nat.zero_le _, fun i hi => absurd hi (Nat.not_lt_zero _)⟩)); (case' lr2 => rintro t ⟨hi, hai⟩ KR hR2; simp only [keepE, hupd, hset, lk, if_true, if_false, xE, reduceIte, zN, chC0, chC1, chC2, chC3, chC4, chC5, uF0, stF0, stF1, ptF0]))))
 | ((first | (with_reducible refine And.intro ?_ ?_) | (with_reducible refine Need.mk ?_)); focus (first | exact True.intro | (with_reducible assumption) | omega | (refine ⟨?_, ?_⟩ <;> omega) | (intro _; first | exact True.intro | (with_reducible assumption) | omega) | (intros; (repeat' (first | exact True.intro | omega | (with_reducible assumption) | (with_reducible refine And.intro ?_ ?_))); done) | (simp (disch := omega) only [Bool.and_eq_true, Bool.or_eq_true, decide_eq_true_eq, bne_iff_ne, ne_eq] at *; first | done | omega | (intros; omega)) | (simp; done) | (simp; omega) | (simp +contextual; done) | (intro h; rw [h]; rfl) | (intro hq; have hq2 := hq; simp only [Bool.and_eq_true, Bool.or_eq_true, Bool.not_eq_true', Bool.not_not, Bool.not_eq_false', decide_eq_true_eq, decide_eq_false_iff_not] at hq2; (repeat' (first | exact hq | (with_reducible refine And.intro ?_ ?_) | omega | (simp_all; done))); done) | (intros; simp_all; done)))
 | (with_reducible refine retK_n ?_)
 | (with_reducible refine retK_n' ?_)
 | (with_reducible refine retH_n rfl rfl rfl ?_)
 | (with_reducible refine retH_n' rfl rfl rfl ?_)
 | ((with_reducible show condN _ _ _ _ _ _); first
 | ((with_reducible refine condN_t ?_ ?_) <;> (intro hc; (try simp only [zB, zC, reduceCtorEq] at hc); (try (exfalso; first | contradiction | omega)))))
 | ((with_reducible refine hR2 _ (t + 1) ?_); (try clear hR2 KR))
 | ((with_reducible refine Told.mk ?_); simp only [go_sem, reduceIte, reduceCtorEq, xA, xL, xD, xE, xM, xS, xB, chC0, chC1, chC2, chC3, chC4, chC5, uF0, stF0, stF1, ptF0] <;> (first | exact True.intro | (((try simp (disch := omega) only [seaWrap, Int.natCast_add, Int.cast_ofNat_Int, and_true, true_and, and_self]); (repeat' (first | exact True.intro | omega | rfl | (with_reducible assumption) | (with_reducible refine And.intro ?_ ?_) | (exact all_succ (by assumption) (by assumption)) )); done)) | (refine Stuck.out ?_)))
 | ((fail_if_success (with_reducible show AW _ _ _ _)); simp (maxSteps := 2000000) only [go_sem, reduceIte, reduceCtorEq, xA, xL, xD, xE, xM, xS, xB, Tryz.f66, Tryz.f99, Tryz.f100, chC0, chC1, chC2, chC3, chC4, chC5, uF0, stF0, stF1, ptF0])
 | ((fail_if_success (with_reducible show AW _ _ _ _)); simp (disch := omega) only [seaWrap, seaDiv, seaMod])
 | ((with_reducible show callN _ _ _ _ _ _ _ _ _ _); first
 | ((refine callN_i (k := 99) Tryz.func99 rfl fnok_99 (by rw [Tryz.ntmps99]; simp) ?_ ?_ (fun K hK => ?_)); (focus (first | exact True.intro | (with_reducible assumption) | omega | (refine ⟨?_, ?_⟩ <;> omega) | (intro _; first | exact True.intro | (with_reducible assumption) | omega) | (intros; (repeat' (first | exact True.intro | omega | (with_reducible assumption) | (with_reducible refine And.intro ?_ ?_))); done) | (simp (disch := omega) only [Bool.and_eq_true, Bool.or_eq_true, decide_eq_true_eq, bne_iff_ne, ne_eq] at *; first | done | omega | (intros; omega)) | (simp; done) | (simp; omega) | (simp +contextual; done) | (intro h; rw [h]; rfl) | (intro hq; have hq2 := hq; simp only [Bool.and_eq_true, Bool.or_eq_true, Bool.not_eq_true', Bool.not_not, Bool.not_eq_false', decide_eq_true_eq, decide_eq_false_iff_not] at hq2; (repeat' (first | exact hq | (with_reducible refine And.intro ?_ ?_) | omega | (simp_all; done))); done) | (intros; simp_all; done))); (focus (first | (simp [lsF]; done) | assumption | exact ⟨Nat.ne_of_lt (Nat.lt_succ_self _), by assumption⟩)); simp only [Tryz.ntmps99, List.map_cons, List.map_nil, List.nil_append, List.cons_append, List.append_nil, LV.tv, argEnv, Nat.zero_add, Nat.reduceAdd])
 | ((refine callN_ic (k := 100) Tryz.func100 rfl fnok_100 (by rw [Tryz.ntmps100]; simp) ?_ ?_ (fun K hK => ?_)); (focus (first | exact True.intro | (with_reducible assumption) | omega | (refine ⟨?_, ?_⟩ <;> omega) | (intro _; first | exact True.intro | (with_reducible assumption) | omega) | (intros; (repeat' (first | exact True.intro | omega | (with_reducible assumption) | (with_reducible refine And.intro ?_ ?_))); done) | (simp (disch := omega) only [Bool.and_eq_true, Bool.or_eq_true, decide_eq_true_eq, bne_iff_ne, ne_eq] at *; first | done | omega | (intros; omega)) | (simp; done) | (simp; omega) | (simp +contextual; done) | (intro h; rw [h]; rfl) | (intro hq; have hq2 := hq; simp only [Bool.and_eq_true, Bool.or_eq_true, Bool.not_eq_true', Bool.not_not, Bool.not_eq_false', decide_eq_true_eq, decide_eq_false_iff_not] at hq2; (repeat' (first | exact hq | (with_reducible refine And.intro ?_ ?_) | omega | (simp_all; done))); done) | (intros; simp_all; done))); (focus (first | (simp [lsF]; done) | assumption | exact ⟨Nat.ne_of_lt (Nat.lt_succ_self _), by assumption⟩)); simp only [Tryz.ntmps100, List.map_cons, List.map_nil, List.nil_append, List.cons_append, List.append_nil, LV.tv, argEnv, Nat.zero_add, Nat.reduceAdd]))
 | ((with_reducible refine hK _ ?_); clear hK K)
 | (with_reducible apply_assumption -exfalso only [*]))
  all_goals (first | exact ixV_h (by omega) hc hai | exact ixV_n (by omega) hai | skip)
theorem wri_p (Y : ChS) (hY : Y.Ok) (s : Nat) (hin : inS Y.x.m s) : CallsP Tryz.prog 53 [.one (.ptr 6 (chC Y)), .one (.g (.int .u64 ((s : Int))))] (.t (.one (.lst 1 (cnt s) (intI (zL (wrL Y.x.S (bl s))))))) := by
  have hm := hY.m
  have hs := inS_lt hm hin
  have mk0 : True := trivial
  have mk1 : True := trivial
  have hpr : True := trivial
  have hor : True := trivial
  refine CallsP_of Tryz.func53 rfl (by rw [Tryz.ntmps53]; simp) ?_
  simp only [Tryz.ntmps53, zM, PT.tv, argEnv, Nat.zero_add, Nat.reduceAdd]
  repeat' (first
 | ((with_reducible show AW _ _ _ _); first
 | (with_reducible first | refine aS (fun K hK => ?_) | refine aI ?_ | refine aX ?_ | refine aT ?_ | refine aC ?_ | refine aB ?_)
 | ((refine AW_rangeFuncH (k := 110) rfl Tryz.func110 rfl fnok_110 (by rw [Tryz.ntmps110]; simp) ?_ ?_ (fun l hlne A B hA hB => ?_)); (focus (simp (maxSteps := 2000000) only [go_sem, reduceIte, reduceCtorEq, xA, xL, xD, xE, xM, xS, xB, Tryz.f53, Tryz.f110, Tryz.f81, chC0, chC1, chC2, chC3, chC4, chC5, uF0, stF0, stF1, ptF0, hpr, wrL_0, rowI_pur, rowI_snoc, rowI_len, wrL_len, maxLen, intI]; try exact True.intro)); (focus (simp (maxSteps := 2000000) only [go_sem, reduceIte, reduceCtorEq, xA, xL, xD, xE, xM, xS, xB, Tryz.f53, Tryz.f110, Tryz.f81, chC0, chC1, chC2, chC3, chC4, chC5, uF0, stF0, stF1, ptF0, hpr, wrL_0, rowI_pur, rowI_snoc, rowI_len, wrL_len, maxLen, intI]; try exact True.intro)); simp only [Tryz.ntmps110, List.map_cons, List.map_nil, LV.tv, argEnv, yV, Nat.zero_add, Nat.reduceAdd]; clear hlne)
 | (with_reducible refine AW_eq (by assumption) ?_)
 | (first
 | (with_reducible first | refine aP (ops := #[⟨some 2, _, _, _, _, _⟩, _]) 0 [0,1,9] ?_ | refine aP (ops := #[⟨some 4, _, _, _, _, _⟩, _]) 0 [0,1] ?_ | refine aP (ops := #[⟨some 1, _, _, _, _, _⟩, _]) 0 [0] ?_ | refine aP (ops := #[⟨some 5, _, _, _, _, _⟩]) 1 [1,2,9] ?_ | refine aP (ops := #[⟨some 5, _, _, _, _, _⟩, _]) 1 [0,3] ?_ | refine aP (ops := #[⟨some 3, _, _, _, _, _⟩, _]) 1 [1] ?_ | refine aP (ops := #[⟨some 7, _, _, _, _, _⟩, _]) 2 [1,2,5,9] ?_ | refine aP (ops := #[⟨some 7, _, _, _, _, _⟩, _, _, _, _]) 2 [0,3] ?_ | refine aP (ops := #[⟨some 6, _, _, _, _, _⟩]) 3 [2,5,9] ?_ | refine aP (ops := #[⟨some 11, _, _, _, _, _⟩, _, _, _, _]) 3 [0,3] ?_)
 | ((with_reducible refine aR (c := Code.region 4 _ true) [2,5,6,9] ?_); (with_reducible refine AW_regionB 10 ?_ ?_ ?_ ?_ ?_); (focus kernel_rfl); (focus kernel_rfl); (focus kernel_rfl); (focus kernel_rfl))
 | (with_reducible refine aP 5 [5] ?_))
 | ((with_reducible show AW _ (Code.loop _) _ _); first
 | ((with_reducible refine aL (c := (Code.seq (Code.seq (Code.region 1 _ _) _) _)) (ι := List Nat × Nat) [0] (fun ⟨l, r⟩ => [(3, .t (.one (.iv (.g (.int .u64 (r : Int))))))]) (fun ⟨l, r⟩ => [(1, [.slc 3 0 l.length 1]), (3, rowI (wrL Y.x.S l))]) (fun ⟨l, r⟩ => rdI s (l, r)) (fun ⟨l, r⟩ => r) ([], s) ?lg1 ?l11 ?l21 ?li1 ?lr1); (case' lg1 => rintro ⟨l, r⟩ _); (case' li1 => try (first | exact rdI_0 hs | exact ⟨rdI_0 hs, fun _ h => absurd h List.not_mem_nil⟩ | exact ⟨rdI_0 hs, rfl⟩)); (case' lr1 => rintro ⟨l, r⟩ hz KR hR1; simp only [keepE, hupd, hset, lk, if_true, if_false, xE, reduceIte, zN, chC0, chC1, chC2, chC3, chC4, chC5, uF0, stF0, stF1, ptF0, hpr, wrL_0, rowI_pur, rowI_snoc, rowI_len, wrL_len, maxLen]))))
 | ((first | (with_reducible refine And.intro ?_ ?_) | (with_reducible refine Need.mk ?_)); focus (first | exact True.intro | (with_reducible assumption) | omega | (refine ⟨?_, ?_⟩ <;> omega) | (intro _; first | exact True.intro | (with_reducible assumption) | omega) | (intros; (repeat' (first | exact True.intro | omega | (with_reducible assumption) | (with_reducible refine And.intro ?_ ?_))); done) | (simp (disch := omega) only [Bool.and_eq_true, Bool.or_eq_true, decide_eq_true_eq, bne_iff_ne, ne_eq] at *; first | done | omega | (intros; omega)) | (simp; done) | (simp; omega) | (simp +contextual; done) | (intro h; rw [h]; rfl) | (intro hq; have hq2 := hq; simp only [Bool.and_eq_true, Bool.or_eq_true, Bool.not_eq_true', Bool.not_not, Bool.not_eq_false', decide_eq_true_eq, decide_eq_false_iff_not] at hq2; (repeat' (first | exact hq | (with_reducible refine And.intro ?_ ?_) | omega | (simp_all; done))); done) | (intros; simp_all; done)))
 | (with_reducible refine retK_n ?_)
 | (with_reducible refine retK_n' ?_)
 | (with_reducible refine retH_n rfl rfl rfl ?_)
 | (with_reducible refine retH_n' rfl rfl rfl ?_)
 | ((with_reducible show condN _ _ _ _ _ _); first
 | ((with_reducible refine condN_t ?_ ?_) <;> (intro hc; (try simp only [zB, zC, reduceCtorEq] at hc); ((try (clear mk0 hpr; have h0 : 0 < r := (by omega); have hz2 := rdI_s hz h0; have hr := hz.2; have hcz := rdI_cz hin hz h0; have hpr := u_predW h0 hr; have hle := rdI_le hz))); (try (exfalso; first | contradiction | omega)))))
 | ((with_reducible refine And.intro ?_ ?_); focus (first | ((with_reducible show chkS _ _ _ _ = true); kernel_rfl) | ((with_reducible show holesB _ _ _ = true); kernel_rfl)))
 | ((with_reducible refine And.intro ?_ ?_); focus ((with_reducible show chkR _ _ _ = true); kernel_rfl))
 | ((with_reducible show callN _ _ _ _ _ _ _ _ _ _); first
 | (refine callN_q (k := 111) fnok_111 (tz_p r hz.2) ?_ ?_)
 | ((refine callN_i (k := 81) Tryz.func81 rfl fnok_81 (by rw [Tryz.ntmps81]; simp) ?_ ?_ (fun K hK => ?_)); (focus (first | exact True.intro | (with_reducible assumption) | omega | (refine ⟨?_, ?_⟩ <;> omega) | (intro _; first | exact True.intro | (with_reducible assumption) | omega) | (intros; (repeat' (first | exact True.intro | omega | (with_reducible assumption) | (with_reducible refine And.intro ?_ ?_))); done) | (simp (disch := omega) only [Bool.and_eq_true, Bool.or_eq_true, decide_eq_true_eq, bne_iff_ne, ne_eq] at *; first | done | omega | (intros; omega)) | (simp; done) | (simp; omega) | (simp +contextual; done) | (intro h; rw [h]; rfl) | (intro hq; have hq2 := hq; simp only [Bool.and_eq_true, Bool.or_eq_true, Bool.not_eq_true', Bool.not_not, Bool.not_eq_false', decide_eq_true_eq, decide_eq_false_iff_not] at hq2; (repeat' (first | exact hq | (with_reducible refine And.intro ?_ ?_) | omega | (simp_all; done))); done) | (intros; simp_all; done))); (focus (first | (simp [lsF]; done) | assumption | exact ⟨Nat.ne_of_lt (Nat.lt_succ_self _), by assumption⟩)); simp only [Tryz.ntmps81, List.map_cons, List.map_nil, List.nil_append, List.cons_append, List.append_nil, LV.tv, argEnv, Nat.zero_add, Nat.reduceAdd]))
 | ((with_reducible refine hR1 _ (l ++ [cz r], r &&& (r - 1)) ?_); (try clear hR1 KR))
 | ((with_reducible refine Told.mk ?_); simp only [go_sem, reduceIte, reduceCtorEq, xA, xL, xD, xE, xM, xS, xB, chC0, chC1, chC2, chC3, chC4, chC5, uF0, stF0, stF1, ptF0, hpr, wrL_0, rowI_pur, rowI_snoc, rowI_len, wrL_len, maxLen, intI] <;> (first | exact True.intro | (((try simp (disch := omega) only [seaWrap, Int.natCast_add, Int.cast_ofNat_Int, and_true, true_and, and_self]); (repeat' (first | exact True.intro | omega | rfl | (with_reducible assumption) | (with_reducible refine And.intro ?_ ?_) | (exact all_succ (by assumption) (by assumption)) | ((exact rfl)) | ((exact hz2.1)) | ((exact hz2.2)) | ((exact wkC_eq rfl (rowI_iv _))) | ((rw [wrL_s]; exact wkC_eq rfl (rowI_iv _))) | ((simp only [List.length_append, List.length_cons, List.length_nil, Nat.zero_add]; done)))); done)) | (refine Stuck.out ?_)))
 | ((fail_if_success (with_reducible show AW _ _ _ _)); simp (maxSteps := 2000000) only [go_sem, reduceIte, reduceCtorEq, xA, xL, xD, xE, xM, xS, xB, Tryz.f53, Tryz.f110, Tryz.f81, chC0, chC1, chC2, chC3, chC4, chC5, uF0, stF0, stF1, ptF0, hpr, wrL_0, rowI_pur, rowI_snoc, rowI_len, wrL_len, maxLen, intI])
 | ((fail_if_success (with_reducible show AW _ _ _ _)); simp (disch := omega) only [seaWrap, seaDiv, seaMod])
 | ((with_reducible show callN _ _ _ _ _ _ (.yld _) _ _ _); (refine callN_y (by simp only [lkL, if_true]; exact rfl) ?_ (by simp) ?_ ?_ (fun K hK => ?_)); (focus (first | exact True.intro | (with_reducible assumption) | omega | (refine ⟨?_, ?_⟩ <;> omega) | (intro _; first | exact True.intro | (with_reducible assumption) | omega) | (intros; (repeat' (first | exact True.intro | omega | (with_reducible assumption) | (with_reducible refine And.intro ?_ ?_))); done) | (simp (disch := omega) only [Bool.and_eq_true, Bool.or_eq_true, decide_eq_true_eq, bne_iff_ne, ne_eq] at *; first | done | omega | (intros; omega)) | (simp; done) | (simp; omega) | (simp +contextual; done) | (intro h; rw [h]; rfl) | (intro hq; have hq2 := hq; simp only [Bool.and_eq_true, Bool.or_eq_true, Bool.not_eq_true', Bool.not_not, Bool.not_eq_false', decide_eq_true_eq, decide_eq_false_iff_not] at hq2; (repeat' (first | exact hq | (with_reducible refine And.intro ?_ ?_) | omega | (simp_all; done))); done) | (intros; simp_all; done))); (focus (simp [ltAll])); (focus (first | (simp [lsF]; done) | assumption | exact ⟨Nat.ne_of_lt (Nat.lt_succ_self _), by assumption⟩)); simp only [zipPut, gf, if_true, Nat.reduceAdd])
 | ((with_reducible refine hK _ ?_); clear hK K)
 | (with_reducible apply_assumption -exfalso only [*]))
  all_goals (first | (have e0 : r = 0 := (by omega); subst e0; have hl := rdI_e hz; subst hl; exact ⟨fun c hc9 => (by have := rowI_iv _ c hc9; cases c <;> first | trivial | exact this.elim), rfl, fun i o hi ho => row_zL _ i o (by simpa [wrL, cnt] using hi) ho⟩) | skip)
theorem clo_p (Y : ChS) (hY : Y.Ok) (s : Nat) (hin : inS Y.x.m s) : CallsP Tryz.prog 49 [.one (.ptr 6 (chC Y)), .one (.g (.int .u64 ((s : Int))))] (.t (.one (.g (.int .u64 ((cloN Y.P s : Nat)))))) := by
  have hm := hY.m
  have hs := inS_lt hm hin
  have mk0 : True := trivial
  have mk1 : True := trivial
  have hpr : True := trivial
  have hor : True := trivial
  refine CallsP_of Tryz.func49 rfl (by rw [Tryz.ntmps49]; simp) ?_
  simp only [Tryz.ntmps49, zM, PT.tv, argEnv, Nat.zero_add, Nat.reduceAdd]
  repeat' (first
 | ((with_reducible show AW _ _ _ _); first
 | (with_reducible first | refine aS (fun K hK => ?_) | refine aI ?_ | refine aX ?_ | refine aT ?_ | refine aC ?_ | refine aB ?_)
 | ((refine AW_rangeFuncH (k := 110) rfl Tryz.func110 rfl fnok_110 (by rw [Tryz.ntmps110]; simp) ?_ ?_ (fun l hlne A B hA hB => ?_)); (focus (simp (maxSteps := 2000000) only [go_sem, reduceIte, reduceCtorEq, xA, xL, xD, xE, xM, xS, xB, Tryz.f49, Tryz.f110, Tryz.f81, chC0, chC1, chC2, chC3, chC4, chC5, uF0, stF0, stF1, ptF0, hpr, hor, orL_0]; try exact True.intro)); (focus (simp (maxSteps := 2000000) only [go_sem, reduceIte, reduceCtorEq, xA, xL, xD, xE, xM, xS, xB, Tryz.f49, Tryz.f110, Tryz.f81, chC0, chC1, chC2, chC3, chC4, chC5, uF0, stF0, stF1, ptF0, hpr, hor, orL_0]; try exact True.intro)); simp only [Tryz.ntmps110, List.map_cons, List.map_nil, LV.tv, argEnv, yV, Nat.zero_add, Nat.reduceAdd]; clear hlne)
 | (with_reducible refine AW_eq (by assumption) ?_)
 | (first
 | (with_reducible first | refine aP (ops := #[⟨some 2, _, _, _, _, _⟩, _]) 0 [0,1,10] ?_ | refine aP (ops := #[⟨some 4, _, _, _, _, _⟩, _]) 0 [0,1] ?_ | refine aP (ops := #[⟨some 1, _, _, _, _, _⟩, _]) 0 [0] ?_ | refine aP (ops := #[⟨some 7, _, _, _, _, _⟩, _, _]) 1 [1,2,10] ?_ | refine aP (ops := #[⟨some 5, _, _, _, _, _⟩, _]) 1 [0,3] ?_ | refine aP (ops := #[⟨some 3, _, _, _, _, _⟩, _]) 1 [1] ?_ | refine aP (ops := #[⟨some 8, _, _, _, _, _⟩, _]) 2 [1,2,5,10] ?_ | refine aP (ops := #[⟨some 7, _, _, _, _, _⟩, _, _, _, _]) 2 [0,3] ?_ | refine aP (ops := #[⟨some 6, _, _, _, _, _⟩]) 3 [2,5,10] ?_ | refine aP (ops := #[⟨some 11, _, _, _, _, _⟩, _, _, _, _]) 3 [0,3] ?_)
 | ((with_reducible refine aR (c := Code.region 4 _ true) [2,5,6,10] ?_); (with_reducible refine aD ?_ ?_ ?_ ?_); (focus kernel_rfl); (focus kernel_rfl); (focus kernel_rfl))
 | (with_reducible refine aP 5 [5] ?_))
 | ((with_reducible show AW _ (Code.loop _) _ _); first
 | ((with_reducible refine aL (c := (Code.seq (Code.seq (Code.region 1 _ _) _) _)) (ι := List Nat × Nat) [0] (fun ⟨l, r⟩ => [(3, .t (.one (.iv (.g (.int .u64 (r : Int))))))]) (fun ⟨l, r⟩ => [(1, [.iv (.g (.int .u64 (orL Y.P s l : Nat)))])]) (fun ⟨l, r⟩ => rdI s (l, r)) (fun ⟨l, r⟩ => r) ([], s) ?lg1 ?l11 ?l21 ?li1 ?lr1); (case' lg1 => rintro ⟨l, r⟩ _); (case' li1 => try (first | exact rdI_0 hs | exact ⟨rdI_0 hs, fun _ h => absurd h List.not_mem_nil⟩ | exact ⟨rdI_0 hs, rfl⟩)); (case' lr1 => rintro ⟨l, r⟩ hz KR hR1; simp only [keepE, hupd, hset, lk, if_true, if_false, xE, reduceIte, zN, chC0, chC1, chC2, chC3, chC4, chC5, uF0, stF0, stF1, ptF0, hpr, hor, orL_0]))))
 | ((first | (with_reducible refine And.intro ?_ ?_) | (with_reducible refine Need.mk ?_)); focus (first | exact True.intro | (with_reducible assumption) | omega | (refine ⟨?_, ?_⟩ <;> omega) | (intro _; first | exact True.intro | (with_reducible assumption) | omega) | (intros; (repeat' (first | exact True.intro | omega | (with_reducible assumption) | (with_reducible refine And.intro ?_ ?_))); done) | (simp (disch := omega) only [Bool.and_eq_true, Bool.or_eq_true, decide_eq_true_eq, bne_iff_ne, ne_eq] at *; first | done | omega | (intros; omega)) | (simp; done) | (simp; omega) | (simp +contextual; done) | (intro h; rw [h]; rfl) | (intro hq; have hq2 := hq; simp only [Bool.and_eq_true, Bool.or_eq_true, Bool.not_eq_true', Bool.not_not, Bool.not_eq_false', decide_eq_true_eq, decide_eq_false_iff_not] at hq2; (repeat' (first | exact hq | (with_reducible refine And.intro ?_ ?_) | omega | (simp_all; done))); done) | (intros; simp_all; done)))
 | (with_reducible refine retK_n ?_)
 | (with_reducible refine retK_n' ?_)
 | (with_reducible refine retH_n rfl rfl rfl ?_)
 | (with_reducible refine retH_n' rfl rfl rfl ?_)
 | ((with_reducible show condN _ _ _ _ _ _); first
 | ((with_reducible refine condN_t ?_ ?_) <;> (intro hc; (try simp only [zB, zC, reduceCtorEq] at hc); ((try (clear mk0 hpr; have h0 : 0 < r := (by omega); have hz2 := rdI_s hz h0; have hr := hz.2; have hcz := rdI_cz hin hz h0; have hpr := u_predW h0 hr; have hle := rdI_le hz)); (try (clear mk1 hor; have hol := orL_lt (P := Y.P) (l := l) hs (fun i hi => hY.P i (rdI_mem hin hz i hi)); have hor := orL_or hol (hY.P _ hcz)))); (try (exfalso; first | contradiction | omega)))))
 | ((with_reducible refine And.intro ?_ ?_); focus ((with_reducible show chkR _ _ _ = true); kernel_rfl))
 | ((with_reducible show callN _ _ _ _ _ _ _ _ _ _); first
 | (refine callN_q (k := 111) fnok_111 (tz_p r hz.2) ?_ ?_)
 | ((refine callN_i (k := 81) Tryz.func81 rfl fnok_81 (by rw [Tryz.ntmps81]; simp) ?_ ?_ (fun K hK => ?_)); (focus (first | exact True.intro | (with_reducible assumption) | omega | (refine ⟨?_, ?_⟩ <;> omega) | (intro _; first | exact True.intro | (with_reducible assumption) | omega) | (intros; (repeat' (first | exact True.intro | omega | (with_reducible assumption) | (with_reducible refine And.intro ?_ ?_))); done) | (simp (disch := omega) only [Bool.and_eq_true, Bool.or_eq_true, decide_eq_true_eq, bne_iff_ne, ne_eq] at *; first | done | omega | (intros; omega)) | (simp; done) | (simp; omega) | (simp +contextual; done) | (intro h; rw [h]; rfl) | (intro hq; have hq2 := hq; simp only [Bool.and_eq_true, Bool.or_eq_true, Bool.not_eq_true', Bool.not_not, Bool.not_eq_false', decide_eq_true_eq, decide_eq_false_iff_not] at hq2; (repeat' (first | exact hq | (with_reducible refine And.intro ?_ ?_) | omega | (simp_all; done))); done) | (intros; simp_all; done))); (focus (first | (simp [lsF]; done) | assumption | exact ⟨Nat.ne_of_lt (Nat.lt_succ_self _), by assumption⟩)); simp only [Tryz.ntmps81, List.map_cons, List.map_nil, List.nil_append, List.cons_append, List.append_nil, LV.tv, argEnv, Nat.zero_add, Nat.reduceAdd]))
 | ((with_reducible refine hR1 _ (l ++ [cz r], r &&& (r - 1)) ?_); (try clear hR1 KR))
 | ((with_reducible refine Told.mk ?_); simp only [go_sem, reduceIte, reduceCtorEq, xA, xL, xD, xE, xM, xS, xB, chC0, chC1, chC2, chC3, chC4, chC5, uF0, stF0, stF1, ptF0, hpr, hor, orL_0] <;> (first | exact True.intro | (((try simp (disch := omega) only [seaWrap, Int.natCast_add, Int.cast_ofNat_Int, and_true, true_and, and_self]); (repeat' (first | exact True.intro | omega | rfl | (with_reducible assumption) | (with_reducible refine And.intro ?_ ?_) | (exact all_succ (by assumption) (by assumption)) | ((exact rfl)) | ((exact hz2.1)) | ((exact hz2.2)))); done)) | (refine Stuck.out ?_)))
 | ((fail_if_success (with_reducible show AW _ _ _ _)); simp (maxSteps := 2000000) only [go_sem, reduceIte, reduceCtorEq, xA, xL, xD, xE, xM, xS, xB, Tryz.f49, Tryz.f110, Tryz.f81, chC0, chC1, chC2, chC3, chC4, chC5, uF0, stF0, stF1, ptF0, hpr, hor, orL_0])
 | ((fail_if_success (with_reducible show AW _ _ _ _)); simp (disch := omega) only [seaWrap, seaDiv, seaMod])
 | ((with_reducible show callN _ _ _ _ _ _ (.yld _) _ _ _); (refine callN_y (by simp only [lkL, if_true]; exact rfl) ?_ (by simp) ?_ ?_ (fun K hK => ?_)); (focus (first | exact True.intro | (with_reducible assumption) | omega | (refine ⟨?_, ?_⟩ <;> omega) | (intro _; first | exact True.intro | (with_reducible assumption) | omega) | (intros; (repeat' (first | exact True.intro | omega | (with_reducible assumption) | (with_reducible refine And.intro ?_ ?_))); done) | (simp (disch := omega) only [Bool.and_eq_true, Bool.or_eq_true, decide_eq_true_eq, bne_iff_ne, ne_eq] at *; first | done | omega | (intros; omega)) | (simp; done) | (simp; omega) | (simp +contextual; done) | (intro h; rw [h]; rfl) | (intro hq; have hq2 := hq; simp only [Bool.and_eq_true, Bool.or_eq_true, Bool.not_eq_true', Bool.not_not, Bool.not_eq_false', decide_eq_true_eq, decide_eq_false_iff_not] at hq2; (repeat' (first | exact hq | (with_reducible refine And.intro ?_ ?_) | omega | (simp_all; done))); done) | (intros; simp_all; done))); (focus (simp [ltAll])); (focus (first | (simp [lsF]; done) | assumption | exact ⟨Nat.ne_of_lt (Nat.lt_succ_self _), by assumption⟩)); simp only [zipPut, gf, if_true, Nat.reduceAdd])
 | ((with_reducible refine hK _ ?_); clear hK K)
 | (with_reducible apply_assumption -exfalso only [*]))
  all_goals (first | (have e0 : r = 0 := (by omega); subst e0; have hl := rdI_e hz; subst hl; exact rfl) | skip)
theorem read_p (Y : ChS) (hY : Y.Ok) (q : Nat) (a : Nat → Int) (hq : q ≤ 9223372036854775807) : CallsP Tryz.prog 75 [.one (.ptr 6 (chC Y)), .one (.lst 1 q (intI a))] (.tup [.one (.g (.int .u64 ((rdV Y.x.S Y.x.m q a : Nat)))), .one (.g (.bool (setB Y.x.S Y.x.m q a)))]) := by
  have hm := hY.m
  have mk0 : True := trivial
  have mk1 : True := trivial
  have hix : True := trivial
  have hsh : True := trivial
  have hor : True := trivial
  refine CallsP_of Tryz.func75 rfl (by rw [Tryz.ntmps75]; simp) ?_
  simp only [Tryz.ntmps75, zM, PT.tv, argEnv, Nat.zero_add, Nat.reduceAdd]
  repeat' (first
 | (refine callK_shr rfl rfl (by omega) ?_)
 | (refine callK_shl rfl rfl (by omega) ?_)
 | (refine callDK_shl rfl rfl (by omega) ?_)
 | ((with_reducible show AW _ _ _ _); first
 | (with_reducible first | refine aS (fun K hK => ?_) | refine aI ?_ | refine aX ?_ | refine aT ?_ | refine aC ?_ | refine aB ?_)
 | (first
 | (with_reducible first | refine aP 0 [0,1] ?_ | refine aP 1 [0,1] ?_ | refine aP 2 [0,1,6] ?_ | refine aP 3 [0,1,6,7] ?_ | refine aP 4 [0,6,7,11,12,13] ?_ | refine aP 5 [0,6,7,11,12,13] ?_ | refine aP 6 [0,6,7,9,11,12,13] ?_ | refine aP 7 [0,6,7,9,10,11,12,13] ?_ | refine aP 8 [] ?_ | refine aP 9 [0,6,9,10,11,12,13] ?_ | refine aP 10 [0,6,9,11,12,13] ?_ | refine aP 11 [0,6,7,11,12,13] ?_ | refine aP 12 [6] ?_))
 | ((with_reducible show AW _ (Code.loop _) _ _); first
 | ((with_reducible refine aL (c := (Code.seq (Code.region 4 _ _) _)) (ι := Nat) [0,11,12] (fun j => [(6, .t (.one (.iv (.g (.int .u64 (rdN Y.x.S Y.x.m a j : Nat)))))), (7, iA .i64 (lsA a j)), (13, iA .i64 (j : Int))]) (fun j => []) (fun j => j ≤ q ∧ (∀ j', j' < j → setP Y.x.S Y.x.m a j')) (fun j => q - j) 0 ?lg4 ?l14 ?l24 ?li4 ?lr4); (case' lg4 => rintro j _); (case' li4 => try (exact ⟨Nat.zero_le _, fun i hi => absurd hi (Nat.not_lt_zero _)⟩)); (case' lr4 => rintro j ⟨hj, haj⟩ KR hR4; simp only [keepE, hupd, hset, lk, if_true, if_false, xE, reduceIte, zN, chC0, chC1, chC2, chC3, chC4, chC5, uF0, stF0, stF1, ptF0, hix, hsh, hor, lsA_s, lsA_0, rdN_0, n00]))))
 | ((first | (with_reducible refine And.intro ?_ ?_) | (with_reducible refine Need.mk ?_)); focus (first | exact True.intro | (with_reducible assumption) | omega | (refine ⟨?_, ?_⟩ <;> omega) | (intro _; first | exact True.intro | (with_reducible assumption) | omega) | (intros; (repeat' (first | exact True.intro | omega | (with_reducible assumption) | (with_reducible refine And.intro ?_ ?_))); done) | (simp (disch := omega) only [Bool.and_eq_true, Bool.or_eq_true, decide_eq_true_eq, bne_iff_ne, ne_eq] at *; first | done | omega | (intros; omega)) | (simp; done) | (simp; omega) | (simp +contextual; done) | (intro h; rw [h]; rfl) | (intro hq; have hq2 := hq; simp only [Bool.and_eq_true, Bool.or_eq_true, Bool.not_eq_true', Bool.not_not, Bool.not_eq_false', decide_eq_true_eq, decide_eq_false_iff_not] at hq2; (repeat' (first | exact hq | (with_reducible refine And.intro ?_ ?_) | omega | (simp_all; done))); done) | (intros; simp_all; done)))
 | (with_reducible refine retK_n ?_)
 | (with_reducible refine retK_n' ?_)
 | (with_reducible refine retH_n rfl rfl rfl ?_)
 | (with_reducible refine retH_n' rfl rfl rfl ?_)
 | ((with_reducible show condN _ _ _ _ _ _); first
 | ((with_reducible refine condN_t ?_ ?_) <;> (intro hc; (try simp only [zB, zC, reduceCtorEq] at hc); ((try (clear mk0 hix hsh hor; rcases ixV_cs Y.x.S Y.x.m (a j) with ⟨hix, hlt⟩ | ⟨hix, hlt⟩; all_goals (first | (have hsh := u_shl6 (k := ixM Y.x.S Y.x.m (a j)) (by omega); have hor := rdN_or hm haj hlt) | (have hsh : True := trivial; have hor : True := trivial))))); (try (exfalso; first | contradiction | omega)))))
 | ((with_reducible show callN _ _ _ _ _ _ _ _ _ _); first
 | (refine callN_q (k := 66) fnok_66 (idx_p Y hY (a j)) ?_ ?_))
 | ((with_reducible refine hR4 _ (j + 1) ?_); (try clear hR4 KR))
 | ((with_reducible refine Told.mk ?_); simp only [go_sem, reduceIte, reduceCtorEq, xA, xL, xD, xE, xM, xS, xB, chC0, chC1, chC2, chC3, chC4, chC5, uF0, stF0, stF1, ptF0, intI, hix, hsh, hor, lsA_s, lsA_0, rdN_0, n00] <;> (first | exact True.intro | (((try simp (disch := omega) only [seaWrap, Int.natCast_add, Int.cast_ofNat_Int, and_true, true_and, and_self]); (repeat' (first | exact True.intro | omega | rfl | (with_reducible assumption) | (with_reducible refine And.intro ?_ ?_) | (exact all_succ (by assumption) (by assumption)) | ((exact all_succ (by assumption) ⟨by assumption, by omega⟩)))); done)) | (refine Stuck.out ?_)))
 | ((fail_if_success (with_reducible show AW _ _ _ _)); simp (maxSteps := 2000000) only [go_sem, reduceIte, reduceCtorEq, xA, xL, xD, xE, xM, xS, xB, Tryz.f75, chC0, chC1, chC2, chC3, chC4, chC5, uF0, stF0, stF1, ptF0, intI, hix, hsh, hor, lsA_s, lsA_0, rdN_0, n00])
 | ((fail_if_success (with_reducible show AW _ _ _ _)); simp (disch := omega) only [seaWrap, seaDiv, seaMod])
 | ((with_reducible refine hK _ ?_); clear hK K)
 | (with_reducible apply_assumption -exfalso only [*]))
  all_goals (first | exact set_f (by omega) (set_f1 hlt) | exact set_f (by omega) (set_f2 (by omega)) | (have e := set_t (by omega) hj haj; rw [← e.1]; exact ⟨rfl, e.2⟩) | skip)
end Go.Proofs.YtmnejmpjmniiiaaGreatDoor
