/- L: the shapes of the arguments, by value. -/
import Derived.Test.YtbckibbgajfihaaGreatRows
import Derived.Test.YtbckibbgajfihaaGreatGn
import Derived.WalkKit
import Derived.ProofKit
import Derived.Lib.SmallJoins
import Derived.Deep.Strs
import Derived.Deep.SlicePairs
set_option linter.unusedVariables false
set_option linter.unusedSimpArgs false
namespace Go.Proofs.YtbckibbgajfihaaGreat
open Go.ChangeShapes Go.WideShapes Go.ChangeAt Go.RowKit Go.Joins Go.Deep Go.Sea
theorem rd_g {w : World} {Z : Nat → Prop} {v u : Value} (h : Rd w Z v (.g u)) : v = u := by cases h; rfl
abbrev Zw (w : World) : Nat → Prop := fun b => b < w.heap.size
section
variable {H : Type} {enc : TypeId × Value → H} {w : World} {base : Nat} {spare : Nat → Bool} {held : Bool} {r : Reach} {b0 : Nat} {v : Value} {d : DataW H} {p : List MemPlace}
theorem spot_none {a : Addr} {j : Nat} {x : Value} (h : w.cell? (a.add j) = some x) (h0 : j = 0 ∨ a.spot = none) : a.spot = none := by
  rcases h0 with rfl | h0
  · obtain ⟨ab, ao, sub⟩ := a
    cases sub with
    | none => rfl
    | some y =>
      exfalso
      simp [Addr.add, World.cell?] at h
      split at h <;> simp at h
  · exact h0
/-- A list of elements of E cells each, by value. -/
theorem rd_slice {t e : TypeId} (ht : Tryz.prog.underlying t = some (.slice e)) {E : Nat} (hE : Tryz.prog.cellsOf e = E) (h0 : 0 < E) {α : Type} [Inhabited α] (F : α → Nat → IV)
    (el : ∀ (n : Nat) (cs : List Value) (y : DataW H × List MemPlace), DataW.trod enc Tryz.prog w base spare held n e cs = some y → cs.length = E → ∃ z : α, ∀ (o : Nat) v, cs[o]? = some v → Rd w (Zw w) v (F z o))
    {c : Value} {n : Nat} {y : DataW H × List MemPlace} (h : DataW.trod enc Tryz.prog w base spare held n t [c] = some y) : ∃ (k : Nat) (Z : Nat → α), k ≤ 9223372036854775807 ∧ Rd w (Zw w) c (.lst E k fun i o => F (Z i) o) := by
  rcases open_slice ht h with ⟨e, _⟩ | ⟨a, len, cap, m, n', D, Pl, e, hb, hl, hm, hmm, _, hx⟩
  · simp at e; subst e
    exact ⟨0, fun _ => default, Nat.zero_le _, .nil _ _ _ _⟩
  · simp at e
    subst e
    rw [hE] at hx
    have hlm : len ≤ m := by rw [hmm]; split <;> omega
    have each : ∀ i, i < len → ∃ q : α × (Nat → Value), ∀ o, o < E → w.cell? (a.add (i * E + o)) = some (q.2 o) ∧ Rd w (Zw w) (q.2 o) (F q.1 o) := fun i hi => by
      obtain ⟨cs', h1, h2⟩ := hx i (by omega)
      obtain ⟨_, hlen, hcell⟩ := World.cells?_some h1
      obtain ⟨z, hz⟩ := el _ _ _ h2 hlen
      refine ⟨(z, fun o => cs'.getD o undef), fun o ho => ?_⟩
      have h3 := hcell o ho
      rw [add_add] at h3
      have h4 : cs'[o]? = some (cs'.getD o undef) := by simp [List.getD, show o < cs'.length by omega]
      rw [h4] at h3
      exact ⟨h3, hz o _ h4⟩
    obtain ⟨Q, hQ⟩ := choose_lt each
    refine ⟨len, fun i => (Q i).1, by unfold maxLen at hm; omega, ?_⟩
    rcases Nat.eq_zero_or_pos len with hz | hpos
    · subst hz; exact .nil _ _ _ _
    · have hs := spot_none (hQ 0 hpos 0 h0).1 (Or.inl (by omega))
      obtain ⟨ab, ao, sub⟩ := a
      simp only at hs
      subst hs
      have hlt : ab < w.heap.size := by
        have := World.block_lt_of_cell? w _ (hQ 0 hpos 0 h0).1
        rwa [Addr.add_lit] at this
      refine .lst ab ao len cap E _ (fun i o => (Q i).2 o) hlt hl hm (fun i o hi' ho => ?_) fun i o hi' ho => (hQ i hi' o ho).2
      have := (hQ i hi' o ho).1
      rw [Addr.add_lit] at this
      rw [Nat.add_assoc]; exact this
theorem cells3 : Tryz.prog.cellsOf 3 = 1 := by kernel_rfl
theorem cells24 : Tryz.prog.cellsOf 28 = 2 := by kernel_rfl
theorem cells31 : Tryz.prog.cellsOf 24 = 1 := by kernel_rfl
theorem cells30 : Tryz.prog.cellsOf 23 = 1 := by kernel_rfl
theorem cells33 : Tryz.prog.cellsOf 26 = 4 := by kernel_rfl
theorem cells38 : Tryz.prog.cellsOf 63 = 2 := by kernel_rfl
theorem cells40 : Tryz.prog.cellsOf 65 = 4 := by kernel_rfl
theorem cells42 : Tryz.prog.cellsOf 67 = 5 := by kernel_rfl
theorem int_cell {n : Nat} {cs : List Value} {y : DataW H × List MemPlace} (h : DataW.trod enc Tryz.prog w base spare held n 3 cs = some y) (hl : cs.length = 1) : ∃ z : Int, ∀ (o : Nat) v, cs[o]? = some v → Rd w (Zw w) v (.g (.int .i64 z)) := by
  obtain ⟨z, e, _, _⟩ := DataW.trod_int Tryz.underlying3 h
  subst e
  refine ⟨z, fun o v hv => ?_⟩
  rcases o with _ | o
  · simp at hv; subst hv; exact .g _ rfl
  · simp at hv
theorem open_ints' {c : Value} {n : Nat} {y : DataW H × List MemPlace} (h : DataW.trod enc Tryz.prog w base spare held n 24 [c] = some y) : ∃ (k : Nat) (s : Nat → Int), k ≤ 9223372036854775807 ∧ Rd w (Zw w) c (.lst 1 k (intI s)) :=
  rd_slice Tryz.underlying24 cells3 (by omega) (fun z _ => .g (.int .i64 z)) (fun n cs y h hl => int_cell h hl) h
theorem span_cells {n : Nat} {cs : List Value} {y : DataW H × List MemPlace} (h : DataW.trod enc Tryz.prog w base spare held n 63 cs = some y) (hl : cs.length = 2) : ∃ a b : Int, cs = [.int .i64 a, .int .i64 b] := by
  match cs, hl with
  | [c0, c1], _ =>
    obtain ⟨y0, y1, n, _, _, h0, h1⟩ := trod_struct2 Tryz.underlying63 h
    simp [cells3] at h0 h1
    obtain ⟨a, e0, _, _⟩ := DataW.trod_int Tryz.underlying3 h0
    obtain ⟨b, e1, _, _⟩ := DataW.trod_int Tryz.underlying3 h1
    simp at e0 e1
    exact ⟨a, b, by rw [e0, e1]⟩
theorem point_cells {n : Nat} {c0 c1 : Value} {y : DataW H × List MemPlace} (h : DataW.trod enc Tryz.prog w base spare held n 28 [c0, c1] = some y) : ∃ a b : Int, c0 = .int .i64 a ∧ c1 = .int .i64 b := by
  obtain ⟨y0, y1, n, _, _, h0, h1⟩ := trod_struct2 Tryz.underlying28 h
  simp [cells3] at h0 h1
  obtain ⟨a, e0, _, _⟩ := DataW.trod_int Tryz.underlying3 h0
  obtain ⟨b, e1, _, _⟩ := DataW.trod_int Tryz.underlying3 h1
  simp at e0 e1
  exact ⟨a, b, e0, e1⟩
set_option maxRecDepth 100000 in
theorem open_point (hv : Value.okWide Tryz.prog w r b0 28 v) (h : DataW.Trod enc Tryz.prog w base spare held 28 v d p) : ∃ a b : Int, v = .agg #[.int .i64 a, .int .i64 b] := by
  obtain ⟨cs, rfl, hsz⟩ := okWide_struct Tryz.underlying28 hv
  obtain ⟨c0, c1, rfl⟩ := array2 (hsz.trans cells24)
  obtain ⟨fuel, hf⟩ := h
  obtain ⟨a, b, rfl, rfl⟩ := point_cells (by simpa [Value.cells] using hf)
  exact ⟨a, b, rfl⟩
theorem share_cells {n : Nat} {cs : List Value} {y : DataW H × List MemPlace} (h : DataW.trod enc Tryz.prog w base spare held n 67 cs = some y) (hl : cs.length = 5) : ∃ s : Nat → Int, ∀ (o : Nat) v, cs[o]? = some v → Rd w (Zw w) v (.g (.int .i64 (s o))) := by
  match cs, hl with
  | [c0, c1, c2, c3, c4], _ =>
    obtain ⟨y0, y1, n, _, _, h0, h1⟩ := trod_struct2 Tryz.underlying67 h
    simp [cells3, cells40] at h0 h1
    obtain ⟨a, e0, _, _⟩ := DataW.trod_int Tryz.underlying3 h0
    obtain ⟨z0, z1, n, _, _, g0, g1⟩ := trod_struct2 Tryz.underlying65 h1
    simp [cells38] at g0 g1
    obtain ⟨b, c, e1⟩ := span_cells g0 rfl
    obtain ⟨d, e, e2⟩ := span_cells g1 rfl
    simp at e0 e1 e2
    obtain ⟨rfl, rfl⟩ := e1
    obtain ⟨rfl, rfl⟩ := e2
    subst e0
    refine ⟨fun o => match o with | 0 => a | 1 => b | 2 => c | 3 => d | _ => e, fun o v hv => ?_⟩
    rcases o with _ | _ | _ | _ | _ | o <;> simp at hv <;> subst hv <;> exact .g _ rfl
theorem open_shares {c : Value} {n : Nat} {y : DataW H × List MemPlace} (h : DataW.trod enc Tryz.prog w base spare held n 23 [c] = some y) : ∃ (k : Nat) (s : Nat → Nat → Int), k ≤ 9223372036854775807 ∧ Rd w (Zw w) c (.lst 5 k (cellI s)) :=
  rd_slice Tryz.underlying23 cells42 (by omega) (fun (z : Nat → Int) o => .g (.int .i64 (z o))) (fun n cs y h hl => share_cells h hl) h
abbrev AccK : Type := {a : Acc // a.m ≤ 9223372036854775807 ∧ a.q ≤ 9223372036854775807}
instance : Inhabited AccK := ⟨⟨acc0, Nat.zero_le _, Nat.zero_le _⟩⟩
theorem acc_cells {n : Nat} {cs : List Value} {y : DataW H × List MemPlace} (h : DataW.trod enc Tryz.prog w base spare held n 26 cs = some y) (hl : cs.length = 4) : ∃ a : AccK, ∀ (o : Nat) v, cs[o]? = some v → Rd w (Zw w) v (accF (fun _ => a.1) 0 o) := by
  match cs, hl with
  | [c0, c1, c2, c3], _ =>
    obtain ⟨y0, y1, y2, y3, n, _, _, h0, h1, h2, h3⟩ := trod_struct4 Tryz.underlying26 h
    simp [cells3, cells30, cells31] at h0 h1 h2 h3
    obtain ⟨a, e0, _, _⟩ := DataW.trod_int Tryz.underlying3 h0
    obtain ⟨b, e1, _, _⟩ := DataW.trod_int Tryz.underlying3 h1
    obtain ⟨m, sh, hm, r2⟩ := open_shares h2
    obtain ⟨q, sg, hq, r3⟩ := open_ints' h3
    simp at e0 e1
    subst e0 e1
    refine ⟨⟨⟨a, b, m, sh, q, sg⟩, hm, hq⟩, fun o v hv => ?_⟩
    rcases o with _ | _ | _ | _ | o <;> simp at hv <;> subst hv
    · exact .g _ rfl
    · exact .g _ rfl
    · exact r2
    · exact r3
theorem open_accs {c : Value} {n : Nat} {y : DataW H × List MemPlace} (h : DataW.trod enc Tryz.prog w base spare held n 22 [c] = some y) : ∃ (k : Nat) (a : Nat → Acc), (k ≤ 9223372036854775807 ∧ ∀ i, i < k → (a i).m ≤ 9223372036854775807 ∧ (a i).q ≤ 9223372036854775807) ∧ Rd w (Zw w) c (.lst 4 k (accF a)) := by
  obtain ⟨k, Z, hk, hr⟩ := rd_slice Tryz.underlying22 cells33 (by omega) (fun (z : AccK) o => accF (fun _ => z.1) 0 o) (fun n cs y h hl => acc_cells h hl) h
  refine ⟨k, fun i => (Z i).1, ⟨hk, fun i _ => (Z i).2⟩, ?_⟩
  have e : (fun i o => accF (fun _ => (Z i).1) 0 o) = accF fun i => (Z i).1 := by
    funext i o
    rw [accF_congr (a' := fun i => (Z i).1) (j := i) rfl]
  rw [e] at hr
  exact hr
set_option maxRecDepth 100000 in
theorem open_list (hv : Value.okWide Tryz.prog w r b0 22 v) (h : DataW.Trod enc Tryz.prog w base spare held 22 v d p) : ∃ (k : Nat) (a : Nat → Acc), (k ≤ 9223372036854775807 ∧ ∀ i, i < k → (a i).m ≤ 9223372036854775807 ∧ (a i).q ≤ 9223372036854775807) ∧ PTRel w (Zw w) v (.one (.lst 4 k (accF a))) := by
  obtain ⟨p0, len, cap, rfl⟩ := okWide_slice Tryz.underlying22 hv
  obtain ⟨fuel, hf⟩ := h
  exact open_accs (by simpa [Value.cells] using hf)
set_option maxRecDepth 100000 in
theorem open_acc (hv : Value.okWide Tryz.prog w r b0 26 v) (h : DataW.Trod enc Tryz.prog w base spare held 26 v d p) : ∃ a : Acc, (a.m ≤ 9223372036854775807 ∧ a.q ≤ 9223372036854775807) ∧ PTRel w (Zw w) v (accP a) := by
  obtain ⟨cs, rfl, hsz⟩ := okWide_struct Tryz.underlying26 hv
  obtain ⟨c0, c1, c2, c3, rfl⟩ := array4 (hsz.trans cells33)
  obtain ⟨fuel, hf⟩ := h
  obtain ⟨⟨a, ha⟩, hz⟩ := acc_cells (cs := [c0, c1, c2, c3]) (by simpa [Value.cells] using hf) rfl
  exact ⟨a, ha, _, rfl, hz 0 c0 rfl, hz 1 c1 rfl, hz 2 c2 rfl, hz 3 c3 rfl, trivial⟩
set_option maxRecDepth 100000 in
theorem open_i (hv : Value.okWide Tryz.prog w r b0 3 v) (h : DataW.Trod enc Tryz.prog w base spare held 3 v d p) : ∃ x : Int, v = .int .i64 x ∧ (Lit.int .i64 x).wf = true := by
  obtain ⟨x, hx, _, _, wx⟩ := open_int Tryz.underlying3 hv h
  exact ⟨x, hx, wx⟩

variable {P' : Program}
theorem cell_at {cs : List Value} {k : Nat} {v c : Value} (h : (cs.drop k).take 1 = [c]) (hv : cs[k]? = some v) : v = c := by
  have h1 : ((cs.drop k).take 1)[0]? = some c := by rw [h]; rfl
  rw [List.getElem?_take, if_pos (by omega), List.getElem?_drop, Nat.add_zero, hv] at h1
  exact Option.some.inj h1
theorem sub_at {cs : List Value} {k m o : Nat} {v : Value} (ho : o < m) (hv : cs[k + o]? = some v) : ((cs.drop k).take m)[o]? = some v := by
  rw [List.getElem?_take, if_pos ho, List.getElem?_drop]; exact hv
theorem fld {t : TypeId} {fs : Array Field} {n : Nat} {cs : List Value} {y : DataW H × List MemPlace} (ht : Tryz.prog.underlying t = some (.struct fs)) (h : DataW.trod enc Tryz.prog w base spare held n t cs = some y) (i : Nat) {f : Field} (hf : fs[i]? = some f) {T k m : Nat} (hT : f.type = T) (hk : f.offset = k) (hm : Tryz.prog.cellsOf T = m) :
    cs.length = Tryz.prog.cellsOf t ∧ ∃ n' y', DataW.trod enc Tryz.prog w base spare held n' T ((cs.drop k).take m) = some y' := by
  obtain ⟨xs, n', _, _, hl, hlen, hx⟩ := DataW.trod_struct ht h
  have h1 := hx i f hf
  rw [hT, hk, hm] at h1
  have hi : i < xs.length := by
    rw [hlen]
    have := (Array.getElem?_eq_some_iff.1 hf)
    exact this.1
  rw [List.getElem?_eq_getElem hi] at h1
  exact ⟨hl, n', _, h1⟩
theorem fld_int {t : TypeId} {fs : Array Field} {n : Nat} {cs : List Value} {y : DataW H × List MemPlace} (ht : Tryz.prog.underlying t = some (.struct fs)) (h : DataW.trod enc Tryz.prog w base spare held n t cs = some y) (i : Nat) {f : Field} (hf : fs[i]? = some f) (hT : f.type = 3) {k : Nat} (hk : f.offset = k) :
    ∃ a : Int, ∀ v, cs[k]? = some v → Rd w (Zw w) v (.g (.int .i64 a)) := by
  obtain ⟨_, n', y', g⟩ := fld ht h i hf hT hk cells3
  obtain ⟨a, e, _, _⟩ := DataW.trod_int Tryz.underlying3 g
  exact ⟨a, fun v hv => by rw [cell_at e hv]; exact .g _ rfl⟩
theorem sl_one {t e : TypeId} (ht : Tryz.prog.underlying t = some (.slice e)) {n : Nat} {cs : List Value} {k : Nat} {y : DataW H × List MemPlace} (h : DataW.trod enc Tryz.prog w base spare held n t ((cs.drop k).take 1) = some y) : ∃ c, DataW.trod enc Tryz.prog w base spare held n t [c] = some y ∧ ∀ v, cs[k]? = some v → v = c := by
  obtain ⟨a, l, c, e⟩ := slice_form ht h
  exact ⟨_, by rw [e] at h; exact h, fun v hv => cell_at e hv⟩
abbrev FeatK : Type := {f : Feat // f.Ok}
abbrev OpK : Type := {o : OpS // o.f.Ok}
abbrev PartK : Type := {p : PartS // p.Ok}
instance : Inhabited FeatK := ⟨⟨feat0, feat0_ok⟩⟩
instance : Inhabited OpK := ⟨⟨zOp 0 0, feat0_ok⟩⟩
instance : Inhabited PartK := ⟨⟨⟨0, 0, fun _ => 0, 0, fun _ => zOp 0 0⟩, Nat.zero_le _, Nat.zero_le _, fun _ h => absurd h (Nat.not_lt_zero _)⟩⟩
def featG : Feat → Nat → IV
  | f, 0 => .g (.int .i64 (f.id))
  | f, 1 => .g (.int .i64 (f.kd))
  | f, 2 => .g (.int .i64 (f.x))
  | f, 3 => .g (.int .i64 (f.y))
  | f, 4 => .g (.int .i64 (f.r))
  | f, 5 => .lst 2 f.n (ptI f.P)
  | f, 6 => .g (.int .i64 (f.d))
  | f, 7 => .g (.int .i64 (f.s))
  | f, _ + 8 => .lst 6 f.m (ptI f.S)
theorem cellspt : Tryz.prog.cellsOf 28 = 2 := by kernel_rfl
set_option maxRecDepth 100000 in
theorem pt_cells {n : Nat} {cs : List Value} {y : DataW H × List MemPlace} (h : DataW.trod enc Tryz.prog w base spare held n 28 cs = some y) : ∃ z : Nat → Int, ∀ (o : Nat) v, cs[o]? = some v → Rd w (Zw w) v (.g (.int .i64 (z o))) := by
  have hlen : cs.length = 2 := by rw [(fld Tryz.underlying28 h 0 rfl rfl rfl rfl).1, cellspt]
  obtain ⟨a, ca⟩ := fld_int Tryz.underlying28 h 0 rfl rfl rfl (k := 0)
  obtain ⟨b, cb⟩ := fld_int Tryz.underlying28 h 1 rfl rfl rfl (k := 1)
  refine ⟨fun o => match o with | 0 => a | _ => b, fun o v hv => ?_⟩
  match o, hv with
  | 0, hv => exact ca _ hv
  | 1, hv => exact cb _ hv
  | o + 2, hv => rw [List.getElem?_eq_none (by omega)] at hv; cases hv
theorem cellssec : Tryz.prog.cellsOf 151 = 6 := by kernel_rfl
set_option maxRecDepth 100000 in
theorem sec_cells {n : Nat} {cs : List Value} {y : DataW H × List MemPlace} (h : DataW.trod enc Tryz.prog w base spare held n 151 cs = some y) : ∃ z : Nat → Int, ∀ (o : Nat) v, cs[o]? = some v → Rd w (Zw w) v (.g (.int .i64 (z o))) := by
  have hlen : cs.length = 6 := by rw [(fld Tryz.underlying151 h 0 rfl rfl rfl rfl).1, cellssec]
  obtain ⟨_, n0, y0, g0⟩ := fld Tryz.underlying151 h 0 rfl rfl rfl (k := 0) (T := 28) cellspt
  obtain ⟨p, r0⟩ := pt_cells g0
  obtain ⟨_, n1, y1, g1⟩ := fld Tryz.underlying151 h 1 rfl rfl rfl (k := 2) (T := 28) cellspt
  obtain ⟨q, r1⟩ := pt_cells g1
  obtain ⟨c, cc⟩ := fld_int Tryz.underlying151 h 2 rfl rfl rfl (k := 4)
  obtain ⟨d, cd⟩ := fld_int Tryz.underlying151 h 3 rfl rfl rfl (k := 5)
  refine ⟨fun o => match o with | 0 => p 0 | 1 => p 1 | 2 => q 0 | 3 => q 1 | 4 => c | _ => d, fun o v hv => ?_⟩
  match o, hv with
  | 0, hv => exact r0 0 _ (sub_at (by omega) hv)
  | 1, hv => exact r0 1 _ (sub_at (by omega) hv)
  | 2, hv => exact r1 0 _ (sub_at (by omega) hv)
  | 3, hv => exact r1 1 _ (sub_at (by omega) hv)
  | 4, hv => exact cc _ hv
  | 5, hv => exact cd _ hv
  | o + 6, hv => rw [List.getElem?_eq_none (by omega)] at hv; cases hv
theorem open_pts {c : Value} {n : Nat} {y : DataW H × List MemPlace} (h : DataW.trod enc Tryz.prog w base spare held n 53 [c] = some y) : ∃ (k : Nat) (s : Nat → Nat → Int), k ≤ 9223372036854775807 ∧ Rd w (Zw w) c (.lst 2 k (ptI s)) :=
  rd_slice Tryz.underlying53 cellspt (by omega) (fun (z : Nat → Int) o => .g (.int .i64 (z o))) (fun n cs y h hl => pt_cells h) h
theorem open_secs {c : Value} {n : Nat} {y : DataW H × List MemPlace} (h : DataW.trod enc Tryz.prog w base spare held n 55 [c] = some y) : ∃ (k : Nat) (s : Nat → Nat → Int), k ≤ 9223372036854775807 ∧ Rd w (Zw w) c (.lst 6 k (ptI s)) :=
  rd_slice Tryz.underlying55 cellssec (by omega) (fun (z : Nat → Int) o => .g (.int .i64 (z o))) (fun n cs y h hl => sec_cells h) h
theorem cells53 : Tryz.prog.cellsOf 53 = 1 := by kernel_rfl
theorem cells55 : Tryz.prog.cellsOf 55 = 1 := by kernel_rfl
theorem cells50 : Tryz.prog.cellsOf 50 = 1 := by kernel_rfl
theorem cells29 : Tryz.prog.cellsOf 29 = 1 := by kernel_rfl
theorem cellsI : Tryz.prog.cellsOf 24 = 1 := by kernel_rfl
theorem cellsfeat : Tryz.prog.cellsOf 57 = 9 := by kernel_rfl
set_option maxRecDepth 100000 in
theorem feat_cells {n : Nat} {cs : List Value} {y : DataW H × List MemPlace} (h : DataW.trod enc Tryz.prog w base spare held n 57 cs = some y) : ∃ z : FeatK, ∀ (o : Nat) v, cs[o]? = some v → Rd w (Zw w) v (featG z.1 o) := by
  have hlen : cs.length = 9 := by rw [(fld Tryz.underlying57 h 0 rfl rfl rfl rfl).1, cellsfeat]
  obtain ⟨a0, ca0⟩ := fld_int Tryz.underlying57 h 0 rfl rfl rfl (k := 0)
  obtain ⟨a1, ca1⟩ := fld_int Tryz.underlying57 h 1 rfl rfl rfl (k := 1)
  obtain ⟨_, n2, y2, g2⟩ := fld Tryz.underlying57 h 2 rfl rfl rfl (k := 2) (T := 28) cellspt
  obtain ⟨p, r2⟩ := pt_cells g2
  obtain ⟨a3, ca3⟩ := fld_int Tryz.underlying57 h 3 rfl rfl rfl (k := 4)
  obtain ⟨_, n4, y4, g4⟩ := fld Tryz.underlying57 h 4 rfl rfl rfl (k := 5) (T := 53) cells53
  obtain ⟨c4, k4, e4⟩ := sl_one Tryz.underlying53 g4
  obtain ⟨m4, s4, b4, r4⟩ := open_pts k4
  obtain ⟨a5, ca5⟩ := fld_int Tryz.underlying57 h 5 rfl rfl rfl (k := 6)
  obtain ⟨a6, ca6⟩ := fld_int Tryz.underlying57 h 6 rfl rfl rfl (k := 7)
  obtain ⟨_, n7, y7, g7⟩ := fld Tryz.underlying57 h 7 rfl rfl rfl (k := 8) (T := 55) cells55
  obtain ⟨c7, k7, e7⟩ := sl_one Tryz.underlying55 g7
  obtain ⟨m7, s7, b7, r7⟩ := open_secs k7
  refine ⟨⟨⟨a0, a1, p 0, p 1, a3, m4, s4, a5, a6, m7, s7⟩, b4, b7⟩, fun o v hv => ?_⟩
  match o, hv with
  | 0, hv => exact ca0 _ hv
  | 1, hv => exact ca1 _ hv
  | 2, hv => exact r2 0 _ (sub_at (by omega) hv)
  | 3, hv => exact r2 1 _ (sub_at (by omega) hv)
  | 4, hv => exact ca3 _ hv
  | 5, hv => rw [e4 _ hv]; exact r4
  | 6, hv => exact ca5 _ hv
  | 7, hv => exact ca6 _ hv
  | 8, hv => rw [e7 _ hv]; exact r7
  | o + 9, hv => rw [List.getElem?_eq_none (by omega)] at hv; cases hv
theorem cellsop : Tryz.prog.cellsOf 59 = 16 := by kernel_rfl
set_option maxRecDepth 100000 in
theorem op_cells {n : Nat} {cs : List Value} {y : DataW H × List MemPlace} (h : DataW.trod enc Tryz.prog w base spare held n 59 cs = some y) : ∃ z : OpK, ∀ (o : Nat) v, cs[o]? = some v → Rd w (Zw w) v (oprG z.1 o) := by
  have hlen : cs.length = 16 := by rw [(fld Tryz.underlying59 h 0 rfl rfl rfl rfl).1, cellsop]
  obtain ⟨a0, ca0⟩ := fld_int Tryz.underlying59 h 0 rfl rfl rfl (k := 0)
  obtain ⟨a1, ca1⟩ := fld_int Tryz.underlying59 h 1 rfl rfl rfl (k := 1)
  obtain ⟨_, n2, y2, g2⟩ := fld Tryz.underlying59 h 2 rfl rfl rfl (k := 2) (T := 57) cellsfeat
  obtain ⟨f, r2⟩ := feat_cells g2
  obtain ⟨_, n3, y3, g3⟩ := fld Tryz.underlying59 h 3 rfl rfl rfl (k := 11) (T := 28) cellspt
  obtain ⟨p, r3⟩ := pt_cells g3
  obtain ⟨a4, ca4⟩ := fld_int Tryz.underlying59 h 4 rfl rfl rfl (k := 13)
  obtain ⟨a5, ca5⟩ := fld_int Tryz.underlying59 h 5 rfl rfl rfl (k := 14)
  obtain ⟨a6, ca6⟩ := fld_int Tryz.underlying59 h 6 rfl rfl rfl (k := 15)
  refine ⟨⟨⟨a0, a1, f.1, p 0, p 1, a4, a5, a6⟩, f.2⟩, fun o v hv => ?_⟩
  match o, hv with
  | 0, hv => exact ca0 _ hv
  | 1, hv => exact ca1 _ hv
  | 2, hv => exact r2 0 _ (sub_at (by omega) hv)
  | 3, hv => exact r2 1 _ (sub_at (by omega) hv)
  | 4, hv => exact r2 2 _ (sub_at (by omega) hv)
  | 5, hv => exact r2 3 _ (sub_at (by omega) hv)
  | 6, hv => exact r2 4 _ (sub_at (by omega) hv)
  | 7, hv => exact r2 5 _ (sub_at (by omega) hv)
  | 8, hv => exact r2 6 _ (sub_at (by omega) hv)
  | 9, hv => exact r2 7 _ (sub_at (by omega) hv)
  | 10, hv => exact r2 8 _ (sub_at (by omega) hv)
  | 11, hv => exact r3 0 _ (sub_at (by omega) hv)
  | 12, hv => exact r3 1 _ (sub_at (by omega) hv)
  | 13, hv => exact ca4 _ hv
  | 14, hv => exact ca5 _ hv
  | 15, hv => exact ca6 _ hv
  | o + 16, hv => rw [List.getElem?_eq_none (by omega)] at hv; cases hv
theorem open_ops {c : Value} {n : Nat} {y : DataW H × List MemPlace} (h : DataW.trod enc Tryz.prog w base spare held n 50 [c] = some y) : ∃ (k : Nat) (s : Nat → OpK), k ≤ 9223372036854775807 ∧ Rd w (Zw w) c (.lst 16 k (oprF fun i => (s i).1)) :=
  rd_slice Tryz.underlying50 cellsop (by omega) (fun (z : OpK) o => oprG z.1 o) (fun n cs y h hl => op_cells h) h
theorem cellspart : Tryz.prog.cellsOf 52 = 3 := by kernel_rfl
set_option maxRecDepth 100000 in
theorem part_cells {n : Nat} {cs : List Value} {y : DataW H × List MemPlace} (h : DataW.trod enc Tryz.prog w base spare held n 52 cs = some y) : ∃ z : PartK, ∀ (o : Nat) v, cs[o]? = some v → Rd w (Zw w) v (partG z.1 o) := by
  have hlen : cs.length = 3 := by rw [(fld Tryz.underlying52 h 0 rfl rfl rfl rfl).1, cellspart]
  obtain ⟨a0, ca0⟩ := fld_int Tryz.underlying52 h 0 rfl rfl rfl (k := 0)
  obtain ⟨_, n1, y1, g1⟩ := fld Tryz.underlying52 h 1 rfl rfl rfl (k := 1) (T := 24) cellsI
  obtain ⟨c1, k1, e1⟩ := sl_one Tryz.underlying24 g1
  obtain ⟨q, a, b1, r1⟩ := open_ints' k1
  obtain ⟨_, n2, y2, g2⟩ := fld Tryz.underlying52 h 2 rfl rfl rfl (k := 2) (T := 50) cells50
  obtain ⟨c2, k2, e2⟩ := sl_one Tryz.underlying50 g2
  obtain ⟨k, s, b2, r2⟩ := open_ops k2
  refine ⟨⟨⟨a0, q, a, k, fun i => (s i).1⟩, b1, b2, fun i _ => (s i).2⟩, fun o v hv => ?_⟩
  match o, hv with
  | 0, hv => exact ca0 _ hv
  | 1, hv => rw [e1 _ hv]; exact r1
  | 2, hv => rw [e2 _ hv]; exact r2
  | o + 3, hv => rw [List.getElem?_eq_none (by omega)] at hv; cases hv
theorem open_parts {c : Value} {n : Nat} {y : DataW H × List MemPlace} (h : DataW.trod enc Tryz.prog w base spare held n 29 [c] = some y) : ∃ (k : Nat) (s : Nat → PartK), k ≤ 9223372036854775807 ∧ Rd w (Zw w) c (.lst 3 k (partF fun i => (s i).1)) :=
  rd_slice Tryz.underlying29 cellspart (by omega) (fun (z : PartK) o => partG z.1 o) (fun n cs y h hl => part_cells h) h
theorem cellsnot : Tryz.prog.cellsOf 31 = 7 := by kernel_rfl
set_option maxRecDepth 100000 in
theorem not_cells {n : Nat} {cs : List Value} {y : DataW H × List MemPlace} (h : DataW.trod enc Tryz.prog w base spare held n 31 cs = some y) : ∃ z : NotS, z.Ok ∧ ∀ (o : Nat) v, cs[o]? = some v → Rd w (Zw w) v (match o with | 0 => .g (.int .i64 z.oc) | 1 => .g (.int .i64 z.nu) | 2 => .g (.int .i64 z.kd) | 3 => .g (.int .i64 z.fr) | 4 => .g (.int .i64 z.un) | 5 => .g (.int .i64 z.ca) | _ => .lst 3 z.n (partF z.p)) := by
  have hlen : cs.length = 7 := by rw [(fld Tryz.underlying31 h 0 rfl rfl rfl rfl).1, cellsnot]
  obtain ⟨a0, ca0⟩ := fld_int Tryz.underlying31 h 0 rfl rfl rfl (k := 0)
  obtain ⟨a1, ca1⟩ := fld_int Tryz.underlying31 h 1 rfl rfl rfl (k := 1)
  obtain ⟨a2, ca2⟩ := fld_int Tryz.underlying31 h 2 rfl rfl rfl (k := 2)
  obtain ⟨a3, ca3⟩ := fld_int Tryz.underlying31 h 3 rfl rfl rfl (k := 3)
  obtain ⟨a4, ca4⟩ := fld_int Tryz.underlying31 h 4 rfl rfl rfl (k := 4)
  obtain ⟨a5, ca5⟩ := fld_int Tryz.underlying31 h 5 rfl rfl rfl (k := 5)
  obtain ⟨_, n6, y6, g6⟩ := fld Tryz.underlying31 h 6 rfl rfl rfl (k := 6) (T := 29) cells29
  obtain ⟨c6, k6, e6⟩ := sl_one Tryz.underlying29 g6
  obtain ⟨k, s, b6, r6⟩ := open_parts k6
  refine ⟨⟨a0, a1, a2, a3, a4, a5, k, fun i => (s i).1⟩, ⟨b6, fun i _ => (s i).2⟩, fun o v hv => ?_⟩
  match o, hv with
  | 0, hv => exact ca0 _ hv
  | 1, hv => exact ca1 _ hv
  | 2, hv => exact ca2 _ hv
  | 3, hv => exact ca3 _ hv
  | 4, hv => exact ca4 _ hv
  | 5, hv => exact ca5 _ hv
  | 6, hv => rw [e6 _ hv]; exact r6
  | o + 7, hv => rw [List.getElem?_eq_none (by omega)] at hv; cases hv

theorem array7 {α : Type} {cs : Array α} (h : cs.size = 7) : ∃ c0 c1 c2 c3 c4 c5 c6, cs = #[c0, c1, c2, c3, c4, c5, c6] := by
  obtain ⟨l⟩ := cs
  match l, h with
  | [c0, c1, c2, c3, c4, c5, c6], _ => exact ⟨c0, c1, c2, c3, c4, c5, c6, rfl⟩
set_option maxRecDepth 100000 in
theorem open_not (hv : Value.okWide Tryz.prog w r b0 31 v) (h : DataW.Trod enc Tryz.prog w base spare held 31 v d p) : ∃ N : NotS, N.Ok ∧ PTRel w (Zw w) v (.agg [.g (.int .i64 N.oc), .g (.int .i64 N.nu), .g (.int .i64 N.kd), .g (.int .i64 N.fr), .g (.int .i64 N.un), .g (.int .i64 N.ca), .lst 3 N.n (partF N.p)]) := by
  obtain ⟨cs, rfl, hsz⟩ := okWide_struct Tryz.underlying31 hv
  obtain ⟨c0, c1, c2, c3, c4, c5, c6, rfl⟩ := array7 (hsz.trans cellsnot)
  obtain ⟨fuel, hf⟩ := h
  obtain ⟨N, hN, hz⟩ := not_cells (cs := [c0, c1, c2, c3, c4, c5, c6]) (by simpa [Value.cells] using hf)
  exact ⟨N, hN, _, rfl, hz 0 c0 rfl, hz 1 c1 rfl, hz 2 c2 rfl, hz 3 c3 rfl, hz 4 c4 rfl, hz 5 c5 rfl, hz 6 c6 rfl, trivial⟩
end
end Go.Proofs.YtbckibbgajfihaaGreat
