/- Part 12 of 17: contracts of functions and plain laws for the root text. No condition. -/
import Derived.Test.YtcfechepbamhkaaGreatX01
import Derived.Test.YtcfechepbamhkaaGreatX02
import Derived.Test.YtcfechepbamhkaaGreatX03
import Derived.Test.YtcfechepbamhkaaGreatX04
import Derived.Test.YtcfechepbamhkaaGreatX05
import Derived.Test.YtcfechepbamhkaaGreatX06
import Derived.Test.YtcfechepbamhkaaGreatX07
import Derived.Test.YtcfechepbamhkaaGreatX08
import Derived.Test.YtcfechepbamhkaaGreatX09
import Derived.Test.YtcfechepbamhkaaGreatX10
import Derived.Test.YtcfechepbamhkaaGreatX11
import Derived.Test.YtcfechepbamhkaaGreatRows
import Derived.WalkKit
import Derived.ProofKit
import Derived.Lib.SmallJoins
import Derived.Deep.Strs
import Derived.Deep.SlicePairs
set_option linter.unusedVariables false
set_option linter.unusedSimpArgs false
namespace Go.Proofs.YtcfechepbamhkaaGreat
open Go.ChangeShapes Go.WideShapes Go.ChangeAt Go.RowKit Go.Joins Go.Deep Go.Sea
theorem afA {w : World} {Z : Nat -> Prop} {v u : Value} (h : Rd w Z v (.g u)) : v = u := by cases h; rfl
abbrev Zw (w : World) : Nat -> Prop := fun b => b < w.heap.size
section
variable {H : Type} {enc : TypeId × Value -> H} {w : World} {base : Nat} {spare : Nat -> Bool} {held : Bool} {r : Reach} {b0 : Nat} {v : Value} {d : DataW H} {p : List MemPlace}
theorem Sj {a : Addr} {j : Nat} {x : Value} (h : w.cell? (a.add j) = some x) (h0 : j = 0 \/ a.spot = none) : a.spot = none := by
  rcases h0 with rfl | h0
  · obtain ⟨ab, ao, sub⟩ := a
    cases sub with
    | none => rfl
    | some y =>
      exfalso
      simp [Addr.add, World.cell?] at h
      split at h <;> simp at h
  · exact h0
theorem kS {t e : TypeId} (ht : Tryz.prog.underlying t = some (.slice e)) {E : Nat} (hE : Tryz.prog.cellsOf e = E) (h0 : 0 < E) {α : Type} [Inhabited α] (F : α -> Nat -> IV)
    (el : ∀ (n : Nat) (cs : List Value) (y : DataW H × List MemPlace), DataW.trod enc Tryz.prog w base spare held n e cs = some y -> cs.length = E -> ∃ z : α, ∀ (o : Nat) v, cs[o]? = some v -> Rd w (Zw w) v (F z o))
    {c : Value} {n : Nat} {y : DataW H × List MemPlace} (h : DataW.trod enc Tryz.prog w base spare held n t [c] = some y) : ∃ (k : Nat) (Z : Nat -> α), k <= 9223372036854775807 /\ Rd w (Zw w) c (.lst E k fun i o => F (Z i) o) := by
  rcases open_slice ht h with ⟨e, _⟩ | ⟨a, len, cap, m, n', D, Pl, e, hb, hl, hm, hmm, _, hx⟩
  · simp at e; subst e
    exact ⟨0, fun _ => default, Nat.zero_le _, .nil _ _ _ _⟩
  · simp at e
    subst e
    rw [hE] at hx
    have hlm : len <= m := by rw [hmm]; split <;> omega
    have each : ∀ i, i < len -> ∃ q : α × (Nat -> Value), ∀ o, o < E -> w.cell? (a.add (i * E + o)) = some (q.2 o) /\ Rd w (Zw w) (q.2 o) (F q.1 o) := fun i hi => by
      obtain ⟨cs', h1, h2⟩ := hx i (by omega)
      obtain ⟨_, hlen, hcell⟩ := World.cells?_some h1
      obtain ⟨z, hz⟩ := el _ _ _ h2 hlen
      refine ⟨(z, fun o => cs'.getD o undef), fun o ho => ?_⟩
      have h3 := hcell o ho
      rw [add_add] at h3
      have h4 : cs'[o]? = some (cs'.getD o undef) := by simp [List.getD, show o < cs'.length by omega]
      rw [h4] at h3
      exact ⟨h3, hz o _ h4⟩
    obtain ⟨Q, hQ⟩ := choose_lt each
    refine ⟨len, fun i => (Q i).1, by unfold maxLen at hm; omega, ?_⟩
    rcases Nat.eq_zero_or_pos len with hz | hpos
    · subst hz; exact .nil _ _ _ _
    · have hs := Sj (hQ 0 hpos 0 h0).1 (Or.inl (by omega))
      obtain ⟨ab, ao, sub⟩ := a
      simp only at hs
      subst hs
      have hlt : ab < w.heap.size := by
        have := World.block_lt_of_cell? w _ (hQ 0 hpos 0 h0).1
        rwa [Addr.add_lit] at this
      refine .lst ab ao len cap E _ (fun i o => (Q i).2 o) hlt hl hm (fun i o hi' ho => ?_) fun i o hi' ho => (hQ i hi' o ho).2
      have := (hQ i hi' o ho).1
      rw [Addr.add_lit] at this
      rw [Nat.add_assoc]; exact this
theorem cells3 : Tryz.prog.cellsOf 3 = 1 := by kernel_rfl
theorem aaM {n : Nat} {cs : List Value} {y : DataW H × List MemPlace} (h : DataW.trod enc Tryz.prog w base spare held n 3 cs = some y) (hl : cs.length = 1) : ∃ z : Int, ∀ (o : Nat) v, cs[o]? = some v -> Rd w (Zw w) v (.g (.int .i64 z)) := by
  obtain ⟨z, e, _, _⟩ := DataW.trod_int Tryz.underlying3 h
  subst e
  refine ⟨z, fun o v hv => ?_⟩
  rcases o with _ | o
  · simp at hv; subst hv; exact .g _ rfl
  · simp at hv
set_option maxRecDepth 100000 in
theorem open_ints' {c : Value} {n : Nat} {y : DataW H × List MemPlace} (h : DataW.trod enc Tryz.prog w base spare held n 36 [c] = some y) : ∃ (k : Nat) (s : Nat -> Int), k <= 9223372036854775807 /\ Rd w (Zw w) c (.lst 1 k (bC s)) :=
  kS Tryz.underlying36 cells3 (by omega) (fun z _ => .g (.int .i64 z)) (fun n cs y h hl => aaM h hl) h
theorem NV {cs : List Value} {k : Nat} {v c : Value} (h : (cs.drop k).take 1 = [c]) (hv : cs[k]? = some v) : v = c := by
  have h1 : ((cs.drop k).take 1)[0]? = some c := by rw [h]; rfl
  rw [List.getElem?_take, if_pos (by omega), List.getElem?_drop, Nat.add_zero, hv] at h1
  exact Option.some.inj h1
theorem gG {cs : List Value} {k m o : Nat} {v : Value} (ho : o < m) (hv : cs[k + o]? = some v) : ((cs.drop k).take m)[o]? = some v := by
  rw [List.getElem?_take, if_pos ho, List.getElem?_drop]; exact hv
theorem zx {t : TypeId} {fs : Array Field} {n : Nat} {cs : List Value} {y : DataW H × List MemPlace} (ht : Tryz.prog.underlying t = some (.struct fs)) (h : DataW.trod enc Tryz.prog w base spare held n t cs = some y) (i : Nat) {f : Field} (hf : fs[i]? = some f) {T k m : Nat} (hT : f.type = T) (hk : f.offset = k) (hm : Tryz.prog.cellsOf T = m) :
    cs.length = Tryz.prog.cellsOf t /\ ∃ n' y', DataW.trod enc Tryz.prog w base spare held n' T ((cs.drop k).take m) = some y' := by
  obtain ⟨xs, n', _, _, hl, hlen, hx⟩ := DataW.trod_struct ht h
  have h1 := hx i f hf
  rw [hT, hk, hm] at h1
  have hi : i < xs.length := by
    rw [hlen]
    have := (Array.getElem?_eq_some_iff.1 hf)
    exact this.1
  rw [List.getElem?_eq_getElem hi] at h1
  exact ⟨hl, n', _, h1⟩
theorem dK {t : TypeId} {fs : Array Field} {n : Nat} {cs : List Value} {y : DataW H × List MemPlace} (ht : Tryz.prog.underlying t = some (.struct fs)) (h : DataW.trod enc Tryz.prog w base spare held n t cs = some y) (i : Nat) {f : Field} (hf : fs[i]? = some f) (hT : f.type = 3) {k : Nat} (hk : f.offset = k) :
    ∃ a : Int, ∀ v, cs[k]? = some v -> Rd w (Zw w) v (.g (.int .i64 a)) := by
  obtain ⟨_, n', y', g⟩ := zx ht h i hf hT hk cells3
  obtain ⟨a, e, _, _⟩ := DataW.trod_int Tryz.underlying3 g
  exact ⟨a, fun v hv => by rw [NV e hv]; exact .g _ rfl⟩
theorem oV {t e : TypeId} (ht : Tryz.prog.underlying t = some (.slice e)) {n : Nat} {cs : List Value} {k : Nat} {y : DataW H × List MemPlace} (h : DataW.trod enc Tryz.prog w base spare held n t ((cs.drop k).take 1) = some y) : ∃ c, DataW.trod enc Tryz.prog w base spare held n t [c] = some y /\ ∀ v, cs[k]? = some v -> v = c := by
  obtain ⟨a, l, c, e⟩ := slice_form ht h
  exact ⟨_, by rw [e] at h; exact h, fun v hv => NV e hv⟩
abbrev Oz : Type := {f : aW // f.Ok}
abbrev OpK : Type := {o : fG // o.f.Ok}
abbrev O1 : Type := {p : fF // p.Ok}
abbrev adZ : Type := {p : ah // p.Ok}
abbrev ad3 : Type := {p : aF // p.Ok}
instance : Inhabited ad3 := ⟨⟨bg, by simp [bg], by simp [bg], fun i h => absurd h (Nat.not_lt_zero i)⟩⟩
instance : Inhabited Oz := ⟨⟨eG, qy⟩⟩
instance : Inhabited OpK := ⟨⟨TS 0 0, qy⟩⟩
instance : Inhabited O1 := ⟨⟨⟨0, 0, fun _ => 0, 0, fun _ => TS 0 0⟩, Nat.zero_le _, Nat.zero_le _, fun _ h => absurd h (Nat.not_lt_zero _)⟩⟩
instance : Inhabited adZ := ⟨⟨⟨0, 0, 0, 0, 0, 0, 0, fun _ => ⟨0, 0, fun _ => 0, 0, fun _ => TS 0 0⟩⟩, Nat.zero_le _, fun _ h => absurd h (Nat.not_lt_zero _)⟩⟩
theorem NK : Tryz.prog.cellsOf 36 = 1 := by kernel_rfl
theorem aa7 : Tryz.prog.cellsOf 61 = 1 := by kernel_rfl
theorem adx : Tryz.prog.cellsOf 62 = 1 := by kernel_rfl
theorem ad7 : Tryz.prog.cellsOf 37 = 1 := by kernel_rfl
theorem aew : Tryz.prog.cellsOf 56 = 1 := by kernel_rfl
theorem adS : Tryz.prog.cellsOf 26 = 1 := by kernel_rfl
theorem qZ : Tryz.prog.cellsOf 60 = 2 := by kernel_rfl
set_option maxRecDepth 100000 in
theorem qG {n : Nat} {cs : List Value} {y : DataW H × List MemPlace} (h : DataW.trod enc Tryz.prog w base spare held n 60 cs = some y) : ∃ z : Nat -> Int, ∀ (o : Nat) v, cs[o]? = some v -> Rd w (Zw w) v (.g (.int .i64 (z o))) := by
  have hlen : cs.length = 2 := by rw [(zx Tryz.underlying60 h 0 rfl rfl rfl rfl).1, qZ]
  obtain ⟨a, ca⟩ := dK Tryz.underlying60 h 0 rfl rfl rfl (k := 0)
  obtain ⟨b, cb⟩ := dK Tryz.underlying60 h 1 rfl rfl rfl (k := 1)
  refine ⟨fun o => match o with | 0 => a | _ => b, fun o v hv => ?_⟩
  match o, hv with
  | 0, hv => exact ca _ hv
  | 1, hv => exact cb _ hv
  | o + 2, hv => rw [List.getElem?_eq_none (by omega)] at hv; cases hv
theorem KT : Tryz.prog.cellsOf 174 = 6 := by kernel_rfl
set_option maxRecDepth 100000 in
theorem Qt {n : Nat} {cs : List Value} {y : DataW H × List MemPlace} (h : DataW.trod enc Tryz.prog w base spare held n 174 cs = some y) : ∃ z : Nat -> Int, ∀ (o : Nat) v, cs[o]? = some v -> Rd w (Zw w) v (.g (.int .i64 (z o))) := by
  have hlen : cs.length = 6 := by rw [(zx Tryz.underlying174 h 0 rfl rfl rfl rfl).1, KT]
  obtain ⟨_, n0, y0, g0⟩ := zx Tryz.underlying174 h 0 rfl rfl rfl (k := 0) (T := 60) qZ
  obtain ⟨p, r0⟩ := qG g0
  obtain ⟨_, n1, y1, g1⟩ := zx Tryz.underlying174 h 1 rfl rfl rfl (k := 2) (T := 60) qZ
  obtain ⟨q, r1⟩ := qG g1
  obtain ⟨c, cc⟩ := dK Tryz.underlying174 h 2 rfl rfl rfl (k := 4)
  obtain ⟨d, cd⟩ := dK Tryz.underlying174 h 3 rfl rfl rfl (k := 5)
  refine ⟨fun o => match o with | 0 => p 0 | 1 => p 1 | 2 => q 0 | 3 => q 1 | 4 => c | _ => d, fun o v hv => ?_⟩
  match o, hv with
  | 0, hv => exact r0 0 _ (gG (by omega) hv)
  | 1, hv => exact r0 1 _ (gG (by omega) hv)
  | 2, hv => exact r1 0 _ (gG (by omega) hv)
  | 3, hv => exact r1 1 _ (gG (by omega) hv)
  | 4, hv => exact cc _ hv
  | 5, hv => exact cd _ hv
  | o + 6, hv => rw [List.getElem?_eq_none (by omega)] at hv; cases hv
theorem Ja : Tryz.prog.cellsOf 35 = 7 := by kernel_rfl
set_option maxRecDepth 100000 in
theorem QG {n : Nat} {cs : List Value} {y : DataW H × List MemPlace} (h : DataW.trod enc Tryz.prog w base spare held n 35 cs = some y) : ∃ z : Nat -> Int, ∀ (o : Nat) v, cs[o]? = some v -> Rd w (Zw w) v (.g (.int .i64 (z o))) := by
  have hlen : cs.length = 7 := by rw [(zx Tryz.underlying35 h 0 rfl rfl rfl rfl).1, Ja]
  obtain ⟨a0, ca0⟩ := dK Tryz.underlying35 h 0 rfl rfl rfl (k := 0)
  obtain ⟨a1, ca1⟩ := dK Tryz.underlying35 h 1 rfl rfl rfl (k := 1)
  obtain ⟨a2, ca2⟩ := dK Tryz.underlying35 h 2 rfl rfl rfl (k := 2)
  obtain ⟨a3, ca3⟩ := dK Tryz.underlying35 h 3 rfl rfl rfl (k := 3)
  obtain ⟨a4, ca4⟩ := dK Tryz.underlying35 h 4 rfl rfl rfl (k := 4)
  obtain ⟨a5, ca5⟩ := dK Tryz.underlying35 h 5 rfl rfl rfl (k := 5)
  obtain ⟨a6, ca6⟩ := dK Tryz.underlying35 h 6 rfl rfl rfl (k := 6)
  refine ⟨fun o => match o with | 0 => a0 | 1 => a1 | 2 => a2 | 3 => a3 | 4 => a4 | 5 => a5 | _ => a6, fun o v hv => ?_⟩
  match o, hv with
  | 0, hv => exact ca0 _ hv
  | 1, hv => exact ca1 _ hv
  | 2, hv => exact ca2 _ hv
  | 3, hv => exact ca3 _ hv
  | 4, hv => exact ca4 _ hv
  | 5, hv => exact ca5 _ hv
  | 6, hv => exact ca6 _ hv
  | o + 7, hv => rw [List.getElem?_eq_none (by omega)] at hv; cases hv
set_option maxRecDepth 100000 in
theorem XK {c : Value} {n : Nat} {y : DataW H × List MemPlace} (h : DataW.trod enc Tryz.prog w base spare held n 61 [c] = some y) : ∃ (k : Nat) (s : Nat -> (Nat -> Int)), k <= 9223372036854775807 /\ Rd w (Zw w) c (.lst 2 k (eX s)) :=
  kS Tryz.underlying61 qZ (by omega) (fun (z : Nat -> Int) o => .g (.int .i64 (z o))) (fun n cs y h hl => qG h) h
set_option maxRecDepth 100000 in
theorem QA {c : Value} {n : Nat} {y : DataW H × List MemPlace} (h : DataW.trod enc Tryz.prog w base spare held n 62 [c] = some y) : ∃ (k : Nat) (s : Nat -> (Nat -> Int)), k <= 9223372036854775807 /\ Rd w (Zw w) c (.lst 6 k (eX s)) :=
  kS Tryz.underlying62 KT (by omega) (fun (z : Nat -> Int) o => .g (.int .i64 (z o))) (fun n cs y h hl => Qt h) h
theorem xk : Tryz.prog.cellsOf 64 = 9 := by kernel_rfl
set_option maxRecDepth 100000 in
theorem DX {n : Nat} {cs : List Value} {y : DataW H × List MemPlace} (h : DataW.trod enc Tryz.prog w base spare held n 64 cs = some y) : ∃ z : Oz, ∀ (o : Nat) v, cs[o]? = some v -> Rd w (Zw w) v (V5 z.1 o) := by
  have hlen : cs.length = 9 := by rw [(zx Tryz.underlying64 h 0 rfl rfl rfl rfl).1, xk]
  obtain ⟨a0, ca0⟩ := dK Tryz.underlying64 h 0 rfl rfl rfl (k := 0)
  obtain ⟨a1, ca1⟩ := dK Tryz.underlying64 h 1 rfl rfl rfl (k := 1)
  obtain ⟨_, n2, y2, g2⟩ := zx Tryz.underlying64 h 2 rfl rfl rfl (k := 2) (T := 60) qZ
  obtain ⟨p, r2⟩ := qG g2
  obtain ⟨a3, ca3⟩ := dK Tryz.underlying64 h 3 rfl rfl rfl (k := 4)
  obtain ⟨_, n4, y4, g4⟩ := zx Tryz.underlying64 h 4 rfl rfl rfl (k := 5) (T := 61) aa7
  obtain ⟨c4, k4, e4⟩ := oV Tryz.underlying61 g4
  obtain ⟨m4, s4, b4, r4⟩ := XK k4
  obtain ⟨a5, ca5⟩ := dK Tryz.underlying64 h 5 rfl rfl rfl (k := 6)
  obtain ⟨a6, ca6⟩ := dK Tryz.underlying64 h 6 rfl rfl rfl (k := 7)
  obtain ⟨_, n7, y7, g7⟩ := zx Tryz.underlying64 h 7 rfl rfl rfl (k := 8) (T := 62) adx
  obtain ⟨c7, k7, e7⟩ := oV Tryz.underlying62 g7
  obtain ⟨m7, s7, b7, r7⟩ := QA k7
  refine ⟨⟨⟨a0, a1, p 0, p 1, a3, m4, s4, a5, a6, m7, s7⟩, b4, b7⟩, fun o v hv => ?_⟩
  match o, hv with
  | 0, hv => exact ca0 _ hv
  | 1, hv => exact ca1 _ hv
  | 2, hv => exact r2 0 _ (gG (by omega) hv)
  | 3, hv => exact r2 1 _ (gG (by omega) hv)
  | 4, hv => exact ca3 _ hv
  | 5, hv => rw [e4 _ hv]; exact r4
  | 6, hv => exact ca5 _ hv
  | 7, hv => exact ca6 _ hv
  | 8, hv => rw [e7 _ hv]; exact r7
  | o + 9, hv => rw [List.getElem?_eq_none (by omega)] at hv; cases hv
theorem N8 : Tryz.prog.cellsOf 66 = 16 := by kernel_rfl
set_option maxRecDepth 100000 in
theorem aaX {n : Nat} {cs : List Value} {y : DataW H × List MemPlace} (h : DataW.trod enc Tryz.prog w base spare held n 66 cs = some y) : ∃ z : OpK, ∀ (o : Nat) v, cs[o]? = some v -> Rd w (Zw w) v (ahn z.1 o) := by
  have hlen : cs.length = 16 := by rw [(zx Tryz.underlying66 h 0 rfl rfl rfl rfl).1, N8]
  obtain ⟨a0, ca0⟩ := dK Tryz.underlying66 h 0 rfl rfl rfl (k := 0)
  obtain ⟨a1, ca1⟩ := dK Tryz.underlying66 h 1 rfl rfl rfl (k := 1)
  obtain ⟨_, n2, y2, g2⟩ := zx Tryz.underlying66 h 2 rfl rfl rfl (k := 2) (T := 64) xk
  obtain ⟨f, r2⟩ := DX g2
  obtain ⟨_, n3, y3, g3⟩ := zx Tryz.underlying66 h 3 rfl rfl rfl (k := 11) (T := 60) qZ
  obtain ⟨p, r3⟩ := qG g3
  obtain ⟨a4, ca4⟩ := dK Tryz.underlying66 h 4 rfl rfl rfl (k := 13)
  obtain ⟨a5, ca5⟩ := dK Tryz.underlying66 h 5 rfl rfl rfl (k := 14)
  obtain ⟨a6, ca6⟩ := dK Tryz.underlying66 h 6 rfl rfl rfl (k := 15)
  refine ⟨⟨⟨a0, a1, f.1, p 0, p 1, a4, a5, a6⟩, f.2⟩, fun o v hv => ?_⟩
  match o, hv with
  | 0, hv => exact ca0 _ hv
  | 1, hv => exact ca1 _ hv
  | 2, hv => exact r2 0 _ (gG (by omega) hv)
  | 3, hv => exact r2 1 _ (gG (by omega) hv)
  | 4, hv => exact r2 2 _ (gG (by omega) hv)
  | 5, hv => exact r2 3 _ (gG (by omega) hv)
  | 6, hv => exact r2 4 _ (gG (by omega) hv)
  | 7, hv => exact r2 5 _ (gG (by omega) hv)
  | 8, hv => exact r2 6 _ (gG (by omega) hv)
  | 9, hv => exact r2 7 _ (gG (by omega) hv)
  | 10, hv => exact r2 8 _ (gG (by omega) hv)
  | 11, hv => exact r3 0 _ (gG (by omega) hv)
  | 12, hv => exact r3 1 _ (gG (by omega) hv)
  | 13, hv => exact ca4 _ hv
  | 14, hv => exact ca5 _ hv
  | 15, hv => exact ca6 _ hv
  | o + 16, hv => rw [List.getElem?_eq_none (by omega)] at hv; cases hv
set_option maxRecDepth 100000 in
theorem Wu {c : Value} {n : Nat} {y : DataW H × List MemPlace} (h : DataW.trod enc Tryz.prog w base spare held n 37 [c] = some y) : ∃ (k : Nat) (s : Nat -> Oz), k <= 9223372036854775807 /\ Rd w (Zw w) c (.lst 9 k (dN fun i => (s i).1)) :=
  kS Tryz.underlying37 xk (by omega) (fun (z : Oz) o => V5 z.1 o) (fun n cs y h hl => DX h) h
set_option maxRecDepth 100000 in
theorem aax {c : Value} {n : Nat} {y : DataW H × List MemPlace} (h : DataW.trod enc Tryz.prog w base spare held n 56 [c] = some y) : ∃ (k : Nat) (s : Nat -> OpK), k <= 9223372036854775807 /\ Rd w (Zw w) c (.lst 16 k (jq fun i => (s i).1)) :=
  kS Tryz.underlying56 N8 (by omega) (fun (z : OpK) o => ahn z.1 o) (fun n cs y h hl => aaX h) h
theorem EP : Tryz.prog.cellsOf 58 = 3 := by kernel_rfl
set_option maxRecDepth 100000 in
theorem LC {n : Nat} {cs : List Value} {y : DataW H × List MemPlace} (h : DataW.trod enc Tryz.prog w base spare held n 58 cs = some y) : ∃ z : O1, ∀ (o : Nat) v, cs[o]? = some v -> Rd w (Zw w) v (Wt z.1 o) := by
  have hlen : cs.length = 3 := by rw [(zx Tryz.underlying58 h 0 rfl rfl rfl rfl).1, EP]
  obtain ⟨a0, ca0⟩ := dK Tryz.underlying58 h 0 rfl rfl rfl (k := 0)
  obtain ⟨_, n1, y1, g1⟩ := zx Tryz.underlying58 h 1 rfl rfl rfl (k := 1) (T := 36) NK
  obtain ⟨c1, k1, e1⟩ := oV Tryz.underlying36 g1
  obtain ⟨q, a, b1, r1⟩ := open_ints' k1
  obtain ⟨_, n2, y2, g2⟩ := zx Tryz.underlying58 h 2 rfl rfl rfl (k := 2) (T := 56) aew
  obtain ⟨c2, k2, e2⟩ := oV Tryz.underlying56 g2
  obtain ⟨k, s, b2, r2⟩ := aax k2
  refine ⟨⟨⟨a0, q, a, k, fun i => (s i).1⟩, b1, b2, fun i _ => (s i).2⟩, fun o v hv => ?_⟩
  match o, hv with
  | 0, hv => exact ca0 _ hv
  | 1, hv => rw [e1 _ hv]; exact r1
  | 2, hv => rw [e2 _ hv]; exact r2
  | o + 3, hv => rw [List.getElem?_eq_none (by omega)] at hv; cases hv
set_option maxRecDepth 100000 in
theorem Lc {c : Value} {n : Nat} {y : DataW H × List MemPlace} (h : DataW.trod enc Tryz.prog w base spare held n 26 [c] = some y) : ∃ (k : Nat) (s : Nat -> O1), k <= 9223372036854775807 /\ Rd w (Zw w) c (.lst 3 k (dZ fun i => (s i).1)) :=
  kS Tryz.underlying26 EP (by omega) (fun (z : O1) o => Wt z.1 o) (fun n cs y h hl => LC h) h
theorem Dm : Tryz.prog.cellsOf 28 = 7 := by kernel_rfl
set_option maxRecDepth 100000 in
theorem EX {n : Nat} {cs : List Value} {y : DataW H × List MemPlace} (h : DataW.trod enc Tryz.prog w base spare held n 28 cs = some y) : ∃ z : adZ, ∀ (o : Nat) v, cs[o]? = some v -> Rd w (Zw w) v (afo z.1 o) := by
  have hlen : cs.length = 7 := by rw [(zx Tryz.underlying28 h 0 rfl rfl rfl rfl).1, Dm]
  obtain ⟨a0, ca0⟩ := dK Tryz.underlying28 h 0 rfl rfl rfl (k := 0)
  obtain ⟨a1, ca1⟩ := dK Tryz.underlying28 h 1 rfl rfl rfl (k := 1)
  obtain ⟨a2, ca2⟩ := dK Tryz.underlying28 h 2 rfl rfl rfl (k := 2)
  obtain ⟨a3, ca3⟩ := dK Tryz.underlying28 h 3 rfl rfl rfl (k := 3)
  obtain ⟨a4, ca4⟩ := dK Tryz.underlying28 h 4 rfl rfl rfl (k := 4)
  obtain ⟨a5, ca5⟩ := dK Tryz.underlying28 h 5 rfl rfl rfl (k := 5)
  obtain ⟨_, n6, y6, g6⟩ := zx Tryz.underlying28 h 6 rfl rfl rfl (k := 6) (T := 26) adS
  obtain ⟨c6, k6, e6⟩ := oV Tryz.underlying26 g6
  obtain ⟨k, s, b6, r6⟩ := Lc k6
  refine ⟨⟨⟨a0, a1, a2, a3, a4, a5, k, fun i => (s i).1⟩, ⟨b6, fun i _ => (s i).2⟩⟩, fun o v hv => ?_⟩
  match o, hv with
  | 0, hv => exact ca0 _ hv
  | 1, hv => exact ca1 _ hv
  | 2, hv => exact ca2 _ hv
  | 3, hv => exact ca3 _ hv
  | 4, hv => exact ca4 _ hv
  | 5, hv => exact ca5 _ hv
  | 6, hv => rw [e6 _ hv]; exact r6
  | o + 7, hv => rw [List.getElem?_eq_none (by omega)] at hv; cases hv
set_option maxRecDepth 100000 in
theorem Np {c : Value} {n : Nat} {y : DataW H × List MemPlace} (h : DataW.trod enc Tryz.prog w base spare held n 23 [c] = some y) : ∃ (k : Nat) (s : Nat -> adZ), k <= 9223372036854775807 /\ Rd w (Zw w) c (.lst 7 k (dX fun i => (s i).1)) :=
  kS Tryz.underlying23 Dm (by omega) (fun (z : adZ) o => afo z.1 o) (fun n cs y h hl => EX h) h
theorem IZ : Tryz.prog.cellsOf 39 = 13 := by kernel_rfl
set_option maxRecDepth 100000 in
theorem Q8 {n : Nat} {cs : List Value} {y : DataW H × List MemPlace} (h : DataW.trod enc Tryz.prog w base spare held n 39 cs = some y) : ∃ z : ad3, ∀ (o : Nat) v, cs[o]? = some v -> Rd w (Zw w) v (abZ z.1 o) := by
  have hlen : cs.length = 13 := by rw [(zx Tryz.underlying39 h 0 rfl rfl rfl rfl).1, IZ]
  obtain ⟨a0, ca0⟩ := dK Tryz.underlying39 h 0 rfl rfl rfl (k := 0)
  obtain ⟨a1, ca1⟩ := dK Tryz.underlying39 h 1 rfl rfl rfl (k := 1)
  obtain ⟨a2, ca2⟩ := dK Tryz.underlying39 h 2 rfl rfl rfl (k := 2)
  obtain ⟨_, n3, y3, g3⟩ := zx Tryz.underlying39 h 3 rfl rfl rfl (k := 3) (T := 35) Ja
  obtain ⟨m, r3⟩ := QG g3
  obtain ⟨a4, ca4⟩ := dK Tryz.underlying39 h 4 rfl rfl rfl (k := 10)
  obtain ⟨_, n5, y5, g5⟩ := zx Tryz.underlying39 h 5 rfl rfl rfl (k := 11) (T := 36) NK
  obtain ⟨c5, k5, e5⟩ := oV Tryz.underlying36 g5
  obtain ⟨q, a, b1, r5⟩ := open_ints' k5
  obtain ⟨_, n6, y6, g6⟩ := zx Tryz.underlying39 h 6 rfl rfl rfl (k := 12) (T := 37) ad7
  obtain ⟨c6, k6, e6⟩ := oV Tryz.underlying37 g6
  obtain ⟨k, s, b2, r6⟩ := Wu k6
  refine ⟨⟨⟨a0, a1, a2, ⟨m 0, m 1, m 2, m 3, m 4, m 5, m 6⟩, a4, q, a, k, fun i => (s i).1⟩, ⟨b1, b2, fun i _ => (s i).2⟩⟩, fun o v hv => ?_⟩
  match o, hv with
  | 0, hv => exact ca0 _ hv
  | 1, hv => exact ca1 _ hv
  | 2, hv => exact ca2 _ hv
  | 3, hv => exact r3 0 _ (gG (by omega) hv)
  | 4, hv => exact r3 1 _ (gG (by omega) hv)
  | 5, hv => exact r3 2 _ (gG (by omega) hv)
  | 6, hv => exact r3 3 _ (gG (by omega) hv)
  | 7, hv => exact r3 4 _ (gG (by omega) hv)
  | 8, hv => exact r3 5 _ (gG (by omega) hv)
  | 9, hv => exact r3 6 _ (gG (by omega) hv)
  | 10, hv => exact ca4 _ hv
  | 11, hv => rw [e5 _ hv]; exact r5
  | 12, hv => rw [e6 _ hv]; exact r6
  | o + 13, hv => rw [List.getElem?_eq_none (by omega)] at hv; cases hv
set_option maxRecDepth 100000 in
theorem LG {c : Value} {n : Nat} {y : DataW H × List MemPlace} (h : DataW.trod enc Tryz.prog w base spare held n 22 [c] = some y) : ∃ (k : Nat) (s : Nat -> ad3), k <= 9223372036854775807 /\ Rd w (Zw w) c (.lst 13 k (iR fun i => (s i).1)) :=
  kS Tryz.underlying22 IZ (by omega) (fun (z : ad3) o => abZ z.1 o) (fun n cs y h hl => Q8 h) h
theorem adt : Tryz.prog.cellsOf 22 = 1 := by kernel_rfl
theorem aeK : Tryz.prog.cellsOf 23 = 1 := by kernel_rfl
theorem KP : Tryz.prog.cellsOf 25 = 2 := by kernel_rfl
set_option maxRecDepth 100000 in
theorem Tg {n : Nat} {cs : List Value} {y : DataW H × List MemPlace} (h : DataW.trod enc Tryz.prog w base spare held n 25 cs = some y) : ∃ z : aj, z.Ok /\ ∀ (o : Nat) v, cs[o]? = some v -> Rd w (Zw w) v (match o with | 0 => .lst 13 z.k (iR z.S) | _ => .lst 7 z.n (dX z.N)) := by
  have hlen : cs.length = 2 := by rw [(zx Tryz.underlying25 h 0 rfl rfl rfl rfl).1, KP]
  obtain ⟨_, n0, y0, g0⟩ := zx Tryz.underlying25 h 0 rfl rfl rfl (k := 0) (T := 22) adt
  obtain ⟨c0, k0, e0⟩ := oV Tryz.underlying22 g0
  obtain ⟨a, b, c, r0⟩ := LG k0
  obtain ⟨_, n1, y1, g1⟩ := zx Tryz.underlying25 h 1 rfl rfl rfl (k := 1) (T := 23) aeK
  obtain ⟨c1, k1, e1⟩ := oV Tryz.underlying23 g1
  obtain ⟨q, u, x, r1⟩ := Np k1
  refine ⟨⟨a, fun i => (b i).1, q, fun i => (u i).1⟩, ⟨c, fun i _ => (b i).2, x, fun i _ => (u i).2⟩, fun o v hv => ?_⟩
  match o, hv with
  | 0, hv => rw [e0 _ hv]; exact r0
  | 1, hv => rw [e1 _ hv]; exact r1
  | o + 2, hv => rw [List.getElem?_eq_none (by omega)] at hv; cases hv
theorem aec {α : Type} {cs : Array α} (h : cs.size = 7) : ∃ c0 c1 c2 c3 c4 c5 c6, cs = #[c0, c1, c2, c3, c4, c5, c6] := by
  obtain ⟨l⟩ := cs
  match l, h with
  | [c0, c1, c2, c3, c4, c5, c6], _ => exact ⟨c0, c1, c2, c3, c4, c5, c6, rfl⟩
set_option maxRecDepth 100000 in
theorem Yq (hv : Value.okWide Tryz.prog w r b0 28 v) (h : DataW.Trod enc Tryz.prog w base spare held 28 v d p) : ∃ z : ah, z.Ok /\ dH w (Zw w) v (.agg [.g (.int .i64 z.oc), .g (.int .i64 z.nu), .g (.int .i64 z.kd), .g (.int .i64 z.fr), .g (.int .i64 z.un), .g (.int .i64 z.ca), .lst 3 z.n (dZ z.p)]) := by
  obtain ⟨cs, rfl, hsz⟩ := okWide_struct Tryz.underlying28 hv
  obtain ⟨c0, c1, c2, c3, c4, c5, c6, rfl⟩ := aec (hsz.trans Dm)
  obtain ⟨fuel, hf⟩ := h
  obtain ⟨⟨z, hN⟩, hz⟩ := EX (cs := [c0, c1, c2, c3, c4, c5, c6]) (by simpa [Value.cells] using hf)
  exact ⟨z, hN, _, rfl, hz 0 c0 rfl, hz 1 c1 rfl, hz 2 c2 rfl, hz 3 c3 rfl, hz 4 c4 rfl, hz 5 c5 rfl, hz 6 c6 rfl, trivial⟩
theorem aep {α : Type} {cs : Array α} (h : cs.size = 2) : ∃ c0 c1, cs = #[c0, c1] := by
  obtain ⟨l⟩ := cs
  match l, h with
  | [c0, c1], _ => exact ⟨c0, c1, rfl⟩
set_option maxRecDepth 100000 in
theorem VO (hv : Value.okWide Tryz.prog w r b0 25 v) (h : DataW.Trod enc Tryz.prog w base spare held 25 v d p) : ∃ z : aj, z.Ok /\ dH w (Zw w) v (.agg [.lst 13 z.k (iR z.S), .lst 7 z.n (dX z.N)]) := by
  obtain ⟨cs, rfl, hsz⟩ := okWide_struct Tryz.underlying25 hv
  obtain ⟨c0, c1, rfl⟩ := aep (hsz.trans KP)
  obtain ⟨fuel, hf⟩ := h
  obtain ⟨z, hN, hz⟩ := Tg (cs := [c0, c1]) (by simpa [Value.cells] using hf)
  exact ⟨z, hN, _, rfl, hz 0 c0 rfl, hz 1 c1 rfl, trivial⟩
set_option maxRecDepth 100000 in
theorem Yt (hv : Value.okWide Tryz.prog w r b0 5 v) (h : DataW.Trod enc Tryz.prog w base spare held 5 v d p) : ∃ x : Int, v = .int .u8 x /\ (0 <= x /\ x <= 255) := by
  obtain ⟨x, hx, _, _, wx⟩ := open_int Tryz.underlying5 hv h
  refine ⟨x, hx, ?_⟩
  simp [Lit.wf, IntKind.min, IntKind.max, IntKind.signed, IntKind.bits] at wx
  omega
end
end Go.Proofs.YtcfechepbamhkaaGreat
set_option maxRecDepth 100000
set_option maxHeartbeats 4000000
namespace Go.Proofs.YtcfechepbamhkaaGreat
open Go.RowKit Go.Sea
open Nat renaming reduceAdd -> xA, reduceLT -> xL, reduceLeDiff -> xD, reduceEqDiff -> xE, reduceMul -> xM, reduceSub -> xS, reduceBEq -> xB
theorem ab1 : aM Tryz.prog 77 = true := by kernel_rfl
attribute [go_sem] ab1
def dI (s : aF) (n : Nat) (N : Nat -> ah) : Nat := jM (fun i => rU s (N i) && decide (pQ s (N i) = 0)) n
theorem Oa (s : aF) (n : Nat) (N : Nat -> ah) : dI s n N <= n := rz _ n
theorem Yb {s : aF} {n : Nat} {N : Nat -> ah} {i : Nat} (hi : i < n) (h : rU s (N i) = true) (h2 : pQ s (N i) = 0) (g : ∀ j, j < i -> (rU s (N j) && decide (pQ s (N j) = 0)) = false) : dI s n N = i :=
  jY (b := fun i => rU s (N i) && decide (pQ s (N i) = 0)) (by rw [h, h2]; rfl) g _ hi
theorem Mg {s : aF} {n : Nat} {N : Nat -> ah} (g : ∀ j, j < n -> (rU s (N j) && decide (pQ s (N j) = 0)) = false) : dI s n N = n := o8 _ g
theorem adA {s : aF} {n : Nat} {N : Nat -> ah} (h : dI s n N < n) : rU s (N (dI s n N)) = true /\ pQ s (N (dI s n N)) = 0 := by
  have := (iU (b := fun i => rU s (N i) && decide (pQ s (N i) = 0)) (k := n)).2 h
  simp only [Bool.and_eq_true, decide_eq_true_eq] at this
  exact this
def nxW (s : aF) (n : Nat) (N : Nat -> ah) : aF := mQ s (N (dI s n N))
def vO (s : aF) (n : Nat) (N : Nat -> ah) : Nat -> aF
  | 0 => s
  | j + 1 => nxW (vO s n N j) n N
def VF (s : aF) (n : Nat) (N : Nat -> ah) : Nat := jM (fun j => decide (dI (vO s n N j) n N = n)) (201 + 0 * s.q)
def rJ (s : aF) (n : Nat) (N : Nat -> ah) : aF := vO s n N (VF s n N)
theorem ak4 {s : aF} {N : ah} (h : pQ s N ≠ 0) : (rU s N && decide (pQ s N = 0)) = false := by rw [decide_eq_false h, Bool.and_false]
def goW (s : aF) (n : Nat) (N : Nat -> ah) (j : Nat) : Prop := ∀ i, i < j -> dI (vO s n N i) n N < n
theorem aiT {s : aF} {n : Nat} {N : Nat -> ah} : ∀ {j : Nat}, goW s n N j -> (j = 0 \/ dW (vO s n N j) = true) /\ (vO s n N j).q = s.q + j /\ (vO s n N j).ch = s.ch /\ (vO s n N j).ed = s.ed
  | 0, _ => ⟨Or.inl rfl, rfl, rfl, rfl⟩
  | j + 1, h => by
    have ih := aiT (fun i hi => h i (by omega) : goW s n N j)
    have h1 := adA (h j (Nat.lt_succ_self j))
    have e : vO s n N (j + 1) = Mq (vO s n N j) (N (dI (vO s n N j) n N)) := (agt h1.2).1
    rw [e]
    refine ⟨Or.inr (OP h1.2).1, ?_, ih.2.2.1, ih.2.2.2⟩
    show (vO s n N j).q + 1 = _
    rw [ih.2.1]; omega
theorem Jt {s : aF} (h : dW s = true) : s.q <= 200 := by
  unfold dW at h; simp only [Bool.and_eq_true] at h
  exact (of_decide_eq_true h.1.1.1).1
theorem Vi {s : aF} {n : Nat} {N : Nat -> ah} {j : Nat} (h : goW s n N j) : j <= 200 := by
  have := aiT h
  rcases this.1 with h0 | h0
  · omega
  · have := Jt h0; omega
theorem Vz {s : aF} {n : Nat} {N : Nat -> ah} {j : Nat} (h : goW s n N j) (h2 : dI (vO s n N j) n N = n) : rJ s n N = vO s n N j := by
  have e : VF s n N = j := jY (b := fun j => decide (dI (vO s n N j) n N = n)) (decide_eq_true h2) (fun i hi => decide_eq_false (by have := h i hi; omega)) _ (by have := Vi h; omega)
  unfold rJ; rw [e]
theorem V7 (s : aF) (n : Nat) (N : Nat -> ah) : goW s n N (VF s n N) /\ dI (rJ s n N) n N = n := by
  have hall := (iU (b := fun j => decide (dI (vO s n N j) n N = n)) (k := 201 + 0 * s.q))
  have hg : goW s n N (VF s n N) := fun i hi => by
    have := of_decide_eq_false (hall.1 i hi)
    have := Oa (vO s n N i) n N
    omega
  refine ⟨hg, ?_⟩
  have := Vi hg
  exact of_decide_eq_true (hall.2 (by show VF s n N < 201 + 0 * s.q; omega))
theorem Ov {s : aF} {n : Nat} {N : Nat -> ah} (h : dI s n N = n) : rJ s n N = s := Vz (j := 0) (fun i hi => absurd hi (Nat.not_lt_zero i)) h
theorem agy {s : aF} {n : Nat} {N : Nat -> ah} (h : dW s = true) : dW (rJ s n N) = true /\ (rJ s n N).ch = s.ch /\ (rJ s n N).ed = s.ed := by
  have g := aiT (V7 s n N).1
  refine ⟨?_, g.2.2.1, g.2.2.2⟩
  unfold rJ
  rcases g.1 with e | e
  · rw [e]; exact h
  · exact e
theorem Ka : bg.Ok := ⟨by simp [bg], by simp [bg], fun i h => absurd h (Nat.not_lt_zero i)⟩
theorem aeA (s : aF) (N : ah) : (mQ s N).Ok := by
  unfold mQ; split
  · exact wW (OP (by assumption)).1
  · exact Ka
theorem FX {i : Nat} {cs : List CV} : ∀ l : List CV, (∀ c, c ∈ l -> j4 c) -> List.map (pO i cs) l = l
  | [], _ => rfl
  | c :: l, h => by
    have h1 := h c (List.mem_cons_self ..)
    rw [List.map_cons, FX l fun c hc => h c (List.mem_cons_of_mem _ hc)]
    cases c <;> first | rfl | exact h1.elim
theorem Nw {s : aF} {n : Nat} {N : Nat -> ah} (hs : s.Ok) : ∀ j, (vO s n N j).Ok
  | 0 => hs
  | j + 1 => aeA _ _
theorem ado {s : aF} {n : Nat} {N : Nat -> ah} (hs : s.Ok) : (rJ s n N).Ok := Nw hs _
def uz (f : aj) : aj := ⟨f.k, fun i => rJ (f.S i) f.n f.N, f.n, f.N⟩
theorem Qb {f : aj} (h : f.Ok) : (uz f).Ok := ⟨h.k, fun i hi => ado (h.s i hi), h.n, h.nn⟩
def c13 (s : aF) : List CV := [.iv (.g (.int .i64 s.ch)), .iv (.g (.int .i64 s.sc)), .iv (.g (.int .i64 s.ed)), .iv (.g (.int .i64 s.m.A)), .iv (.g (.int .i64 s.m.B)), .iv (.g (.int .i64 s.m.C)), .iv (.g (.int .i64 s.m.D)), .iv (.g (.int .i64 s.m.E)), .iv (.g (.int .i64 s.m.F)), .iv (.g (.int .i64 s.m.R)), .iv (.g (.int .i64 s.cap)), .iv (.lst 1 s.q (bC s.dn)), .iv (.lst 9 s.n (dN s.f))]
def eY (l : List aF) : List CV := l.flatMap c13
theorem lQ (l : List aF) : ∀ c, c ∈ eY l -> j4 c := by
  intro c hc
  obtain ⟨s, _, h⟩ := List.mem_flatMap.1 hc
  simp only [c13, List.mem_cons, List.not_mem_nil, or_false] at h
  rcases h with rfl | rfl | rfl | rfl | rfl | rfl | rfl | rfl | rfl | rfl | rfl | rfl | rfl <;> trivial
theorem eH (l : List aF) : (eY l).length = l.length * 13 := by
  induction l with
  | nil => rfl
  | cons s l ih => show (c13 s ++ eY l).length = _; rw [List.length_append, ih, List.length_cons]; show 13 + _ = _; omega
theorem gI (l : List aF) (i : Nat) : List.map (CV.bU i) (eY l) = eY l := l6 i (lQ l)
theorem qH (l : List aF) (i : Nat) (cs : List CV) : List.map (pO i cs) (eY l) = eY l := FX _ (lQ l)
theorem uJ : ∀ (l : List aF) (i o : Nat), i < l.length -> o < 13 -> (eY l).getD (i * 13 + o) .any = (c13 (l.getD i bg)).getD o .any
  | [], i, _, hi, _ => absurd hi (Nat.not_lt_zero i)
  | s :: l, 0, o, _, ho => by
    show (c13 s ++ eY l).getD (0 * 13 + o) .any = _
    rw [Nat.zero_mul, Nat.zero_add, List.getD, List.getElem?_append_left (by show o < 13; exact ho)]; rfl
  | s :: l, i + 1, o, hi, ho => by
    show (c13 s ++ eY l).getD ((i + 1) * 13 + o) .any = _
    have e : (i + 1) * 13 + o = 13 + (i * 13 + o) := by omega
    rw [e, List.getD, List.getElem?_append_right (by show 13 <= 13 + (i * 13 + o); omega)]
    show ((eY l)[13 + (i * 13 + o) - 13]?).getD .any = _
    rw [Nat.add_sub_cancel_left]
    exact uJ l i o (by simpa using hi) ho
theorem KI (l : List aF) : ∀ i o, i < l.length -> o < 13 -> (Im ((eY l).getD (i * 13 + o) .any)).eqv (abZ (l.getD i bg) o) := fun i o hi ho => by
  rw [uJ l i o hi ho]
  rcases (by omega : o = 0 \/ o = 1 \/ o = 2 \/ o = 3 \/ o = 4 \/ o = 5 \/ o = 6 \/ o = 7 \/ o = 8 \/ o = 9 \/ o = 10 \/ o = 11 \/ o = 12) with rfl | rfl | rfl | rfl | rfl | rfl | rfl | rfl | rfl | rfl | rfl | rfl | rfl <;> exact IV.bn _
end Go.Proofs.YtcfechepbamhkaaGreat
set_option maxRecDepth 100000
set_option maxHeartbeats 4000000
namespace Go.Proofs.YtcfechepbamhkaaGreat
open Go.RowKit Go.Sea
open Nat renaming reduceAdd -> xA, reduceLT -> xL, reduceLeDiff -> xD, reduceEqDiff -> xE, reduceMul -> xM, reduceSub -> xS, reduceBEq -> xB
theorem Kk : aM Tryz.prog 129 = true := by kernel_rfl
theorem Za : aM Tryz.prog 167 = true := by kernel_rfl
theorem amw : fO Tryz.prog 36 = some [.iv (.g (.slice none 0 0))] := by kernel_rfl
attribute [go_sem] Qc Kk agw amw
def zy (s : aF) (N : Nat -> ah) (i : Nat) : Bool := kN (N i) s.ch && !fD s.q s.dn (N i).nu
def gD (s : aF) (N : Nat -> ah) : Nat -> List Int
  | 0 => []
  | i + 1 => if zy s N i = true then gD s N i ++ [(N i).nu] else gD s N i
theorem DW (s : aF) (N : Nat -> ah) : gD s N 0 = [] := rfl
theorem Zm {s : aF} {N : Nat -> ah} {i : Nat} (h : zy s N i = true) : gD s N (i + 1) = gD s N i ++ [(N i).nu] := by show (if _ then _ else _) = _; rw [if_pos h]
theorem Mw {s : aF} {N : Nat -> ah} {i : Nat} (h : zy s N i = false) : gD s N (i + 1) = gD s N i := by show (if _ then _ else _) = _; rw [if_neg (by rw [h]; simp)]
theorem oW (s : aF) (N : Nat -> ah) : ∀ i, (gD s N i).length <= i
  | 0 => Nat.le_refl _
  | i + 1 => by
    have := oW s N i
    show (if _ then _ else _ : List Int).length <= _
    split
    · simp; omega
    · omega
theorem agL {s : aF} {N : Nat -> ah} {i : Nat} (h : kN (N i) s.ch = true) (h2 : fD s.q s.dn (N i).nu = false) : zy s N i = true := by unfold zy; rw [h, h2]; rfl
theorem ab9 {s : aF} {N : Nat -> ah} {i : Nat} (h : kN (N i) s.ch = false) : zy s N i = false := by unfold zy; rw [h]; rfl
theorem afg {s : aF} {N : Nat -> ah} {i : Nat} (h : fD s.q s.dn (N i).nu = true) : zy s N i = false := by unfold zy; rw [h]; simp
theorem amd {N : ah} {ch : Int} (h : iK N ch = true /\ N.kd = 1) : kN N ch = true := by unfold kN; rw [h.1]; simp [h.2]
theorem anx {N : ah} {ch : Int} (h : iK N ch = false \/ N.kd ≠ 1) : kN N ch = false := by
  unfold kN; rcases h with h | h <;> simp [h]
def zL (l : List Int) (i : Nat) : Int := l.getD i 0
theorem FD (l : List Int) : ∀ i o, i < l.length -> o < 1 -> (Im ((dY l).getD (i + o) .any)).eqv (.g (.int .i64 (zL l i))) := fun i o hi ho => by
  obtain rfl : o = 0 := by omega
  rw [Nat.add_zero, BM _ _ hi]; exact IV.bn _
def LK (s : aF) (n : Nat) (N : Nat -> ah) : List Int := gD s N n
def zw (s : aF) (n : Nat) (N : Nat -> ah) : Bool := dW s && pq n N
theorem agA {s : aF} {n : Nat} {N : Nat -> ah} (h : zw s n N = false) (hc : dW s = true /\ pq n N = true) : False := by unfold zw at h; rw [hc.1, hc.2] at h; cases h
def upL (N : Nat -> ah) (mst : Int) : Nat -> Int
  | 0 => 0
  | i + 1 => if (N i).nu < mst then (N i).nu else upL N mst i
theorem agr {N : Nat -> ah} {mst : Int} {i : Nat} (h : (N i).nu < mst) : upL N mst (i + 1) = (N i).nu := by show (if _ then _ else _) = _; rw [if_pos h]
theorem afW {N : Nat -> ah} {mst : Int} {i : Nat} (h : mst <= (N i).nu) : upL N mst (i + 1) = upL N mst i := by show (if _ then _ else _) = _; rw [if_neg (by omega)]
def JD (l : List Int) : Int := if l.length = 0 then 10001 else zL l 0
def UpE (s : aF) (n : Nat) (N : Nat -> ah) : Int := if zw s n N = true then 0 else 1
def UpV (s : aF) (n : Nat) (N : Nat -> ah) : Int := if zw s n N = true then upL N (JD (gD s N n)) n else 0
theorem ag3 {s : aF} {n : Nat} {N : Nat -> ah} (h : zw s n N = false) : UpV s n N = 0 /\ UpE s n N = 1 := by unfold UpV UpE; rw [h]; exact ⟨rfl, rfl⟩
theorem akt {s : aF} {n : Nat} {N : Nat -> ah} (h : zw s n N = true) : UpV s n N = upL N (JD (gD s N n)) n /\ UpE s n N = 0 := by unfold UpV UpE; rw [if_pos h, if_pos h]; exact ⟨rfl, rfl⟩
theorem alG {l : List Int} (h : l.length = 0) : JD l = 10001 := by unfold JD; rw [if_pos h]
theorem anB {l : List Int} (h : l.length ≠ 0) : JD l = zL l 0 := by unfold JD; rw [if_neg h]
theorem Un (s : aF) (n : Nat) (N : Nat -> ah) (hs : s.Ok) (hn : n <= 9223372036854775807) (hN : ∀ i, i < n -> (N i).Ok) (hv : dW s = true) (hn2 : n <= 1000000) : aA Tryz.prog 84 [(lY s), .one (.lst 7 n (dX N))] (.t (.one (.lst 1 (gD s N n).length (bC (zL (gD s N n)))))) := by
  refine ak Tryz.func84 rfl (by rw [Tryz.ntmps84]; simp) ?_
  simp only [lY, Tryz.ntmps84, zM, PT.tv, au, Nat.zero_add, Nat.reduceAdd]
  repeat' (first
 | ((refine mJ ?_ ?_) <;> (intro hc; (try rw [hc]); (try simp only [zB, zC, reduceCtorEq] at hc); (try (exfalso; contradiction))))
 | ((with_reducible show AW _ _ _ _); first
 | (with_reducible first | refine aS (fun K hK => ?_) | refine aI ?_ | refine aX ?_ | refine aT ?_ | refine aC ?_ | refine aB ?_)
 | ((refine eT (k := 167) rfl Tryz.func167 rfl Za (by rw [Tryz.ntmps167]; simp) ?_ ?_ (fun l hlne A B hA hB => ?_)); (focus (simp (maxSteps := 2000000) only [go_sem, reduceIte, reduceCtorEq, xA, xL, xD, xE, xM, xS, xB, Tryz.f84, Tryz.f167, Tryz.f129, bC, bD, fI, bf, maxLen, DW, List.length_append, List.length_cons, List.length_nil]; try exact True.intro)); (focus (simp (maxSteps := 2000000) only [go_sem, reduceIte, reduceCtorEq, xA, xL, xD, xE, xM, xS, xB, Tryz.f84, Tryz.f167, Tryz.f129, bC, bD, fI, bf, maxLen, DW, List.length_append, List.length_cons, List.length_nil]; try exact True.intro)); simp only [Tryz.ntmps167, List.map_cons, List.map_nil, LV.tv, au, yV, Nat.zero_add, Nat.reduceAdd]; clear hlne)
 | (with_reducible refine vN (by assumption) ?_)
 | (first
 | (with_reducible first | refine aP (ops := #[⟨some 2, _, _, _, _, _⟩, _]) 0 [0,1,12] ?_ | refine aP (ops := #[⟨some 8, _, _, _, _, _⟩, _, _]) 0 [0,1,2] ?_ | refine aP (ops := #[⟨some 2, _, _, _, _, _⟩, _, _]) 0 [0,1] ?_ | refine aP (ops := #[⟨some 5, _, _, _, _, _⟩]) 1 [1,2,12] ?_ | refine aP (ops := #[⟨some 11, _, _, _, _, _⟩]) 1 [0,2,8,9,10] ?_ | refine aP (ops := #[⟨some 5, _, _, _, _, _⟩, _]) 1 [2,3] ?_ | refine aP (ops := #[⟨some 7, _, _, _, _, _⟩, _, _, _, _]) 2 [1,2,5,12] ?_ | refine aP (ops := #[⟨some 12, _, _, _, _, _⟩, _, _, _]) 2 [0,2,8,9,10] ?_ | refine aP (ops := #[⟨some 6, _, _, _, _, _⟩, _]) 3 [2,5,12] ?_ | refine aP (ops := #[⟨some 15, _, _, _, _, _⟩, _, _, _, _, _, _, _, _]) 3 [0,2,5,8,9,10] ?_ | refine aP (ops := #[⟨some 14, _, _, _, _, _⟩, _, _, _, _]) 4 [2,5,6,12] ?_ | refine aP (ops := #[⟨some 20, _, _, _, _, _⟩, _, _, _, _, _, _, _, _, _, _, _, _]) 4 [0,2,5,6,7,8,9,10] ?_ | refine aP (ops := #[⟨some 19, _, _, _, _, _⟩, _, _, _, _, _]) 5 [2,5,6,12] ?_ | refine aP (ops := #[⟨some 33, _, _, _, _, _⟩, _]) 5 [0,2,8,9,10] ?_ | refine aP 6 [5] ?_))
 | ((with_reducible show AW _ (Code.loop _) _ _); first
 | ((with_reducible refine aL (c := (Code.seq (Code.region 1 _ _) _)) (ι := Nat) [0,2,8,9] (fun i => [(10, iA .i64 (i : Int))]) (fun i => [(1, [.slc 8 0 (gD s N i).length 1]), (8, dY (gD s N i))]) (fun i => i <= n) (fun i => n - i) 0 ?lg1 ?l11 ?l21 ?li1 ?lr1); (case' lg1 => rintro i _); (case' li1 => try (omega)); (case' lr1 => rintro i hi KR hR1; have oL := oW s N i; simp only [bG, dL, hset, lk, if_true, if_false, xE, reduceIte, zN, bD, fI, bf, maxLen, DW, List.length_append, List.length_cons, List.length_nil]))))
 | ((first | (with_reducible refine And.intro ?_ ?_) | (with_reducible refine Need.mk ?_)); focus (first | exact True.intro | omega))
 | (with_reducible refine aK ?_)
 | ((with_reducible show bL _ _ _ _ _ _); first
 | ((with_reducible refine aN ?_ ?_) <;> (intro hc; (try simp only [zB, zC, reduceCtorEq] at hc); ((try (have hNi := (hN i (by omega)).n)); (try (have e0 : n = i := (by omega); subst e0))); (try (exfalso; contradiction)))))
 | ((with_reducible show aZ _ _ _ _ _ _ _ _ _ _); first
 | (refine aG (k := 96) qM (Cy (N i) s.ch (hN i (by omega))) ?_ ?_)
 | (refine aG (k := 98) qN (KM s _ hs hv) ?_ ?_)
 | ((refine bW (k := 129) Tryz.func129 rfl Kk (by rw [Tryz.ntmps129]; simp) ?_ ?_ (fun K hK => ?_)); (focus (exact True.intro)); (focus ((simp [iZ]; done))); simp only [Tryz.ntmps129, List.map_cons, List.map_nil, List.nil_append, List.cons_append, List.append_nil, LV.tv, au, Nat.zero_add, Nat.reduceAdd]))
 | ((with_reducible refine hR1 _ (i + 1) ?_); (try clear hR1 KR))
 | ((with_reducible refine Told.mk ?_); simp only [go_sem, reduceIte, reduceCtorEq, xA, xL, xD, xE, xM, xS, xB, bC, bD, fI, bf, maxLen, DW, List.length_append, List.length_cons, List.length_nil] <;> ((((try simp (disch := omega) only [aY, Int.natCast_add, Int.cast_ofNat_Int, and_true, true_and, and_self]); (repeat' (first | omega | rfl | (with_reducible refine And.intro ?_ ?_) | ((first | rw [Mw (ab9 (anx (by assumption)))] | rw [Zm (agL (amd (by assumption)) (by assumption))] | rw [Mw (afg (by assumption))])) | ((exact kZ rfl (iI _))) | ((simp only [List.length_append, List.length_cons, List.length_nil, Nat.zero_add]; done)))); done))))
 | ((fail_if_success (with_reducible show AW _ _ _ _)); simp (maxSteps := 2000000) only [go_sem, reduceIte, reduceCtorEq, xA, xL, xD, xE, xM, xS, xB, Tryz.f84, Tryz.f167, Tryz.f129, bC, bD, fI, bf, maxLen, DW, List.length_append, List.length_cons, List.length_nil])
 | ((with_reducible show aZ _ _ _ _ _ _ (.yld _) _ _ _); (refine lG (by simp only [Fg, if_true]; exact rfl) ?_ (by simp) ?_ ?_ (fun K hK => ?_)); (focus (exact True.intro)); (focus (simp [nk])); (focus ((simp [iZ]; done))); simp only [jm, gf, if_true, Nat.reduceAdd])
 | ((with_reducible refine hK _ ?_); clear hK K)
 | (with_reducible apply_assumption -exfalso only [*]))
  all_goals ((exact ⟨fun c hc9 => (by have := iI _ c hc9; cases c <;> trivial), fun i o hi ho => FD _ i o hi ho⟩))
end Go.Proofs.YtcfechepbamhkaaGreat
set_option maxRecDepth 100000
set_option maxHeartbeats 4000000
namespace Go.Proofs.YtcfechepbamhkaaGreat
open Go.RowKit Go.Sea
open Nat renaming reduceAdd -> xA, reduceLT -> xL, reduceLeDiff -> xD, reduceEqDiff -> xE, reduceMul -> xM, reduceSub -> xS, reduceBEq -> xB
theorem Jb : aM Tryz.prog 111 = true := by kernel_rfl
theorem Ux : aM Tryz.prog 125 = true := by kernel_rfl
theorem PI : aM Tryz.prog 62 = true := by kernel_rfl
theorem afC : aM Tryz.prog 63 = true := by kernel_rfl
theorem ajP : fM Tryz.prog 109 = true := by kernel_rfl
theorem ajz : JI Tryz.prog 108 = none := by kernel_rfl
theorem ajs : mpE Tryz.prog 108 = some 4 := by kernel_rfl
theorem WV : dA Tryz.prog 109 0 = some (0, 1) := by kernel_rfl
theorem ZB : dA Tryz.prog 109 1 = some (1, 1) := by kernel_rfl
theorem ajd : fO Tryz.prog 109 = some [.iv (.g (.int .i64 0)), .iv (.g (.int .i64 0))] := by kernel_rfl
theorem aoG : zPT Tryz.prog 4 = some (.one (.g (.bool false))) := by kernel_rfl
attribute [go_sem] Jb Ux PI ajP ajz ajs WV ZB ajd aoG
def ai0 (N : ah) (t : Int) : Bool := decide (N.kd = 3 \/ N.kd = 2 /\ t < N.un)
def wU (n : Nat) (N : Nat -> ah) (t o u : Int) : Bool := decide (∃ j, j < n /\ ((N j).kd = 4 /\ (N j).fr <= t) /\ (N j).oc = o /\ (N j).ca = u)
def xW (N : Nat -> ah) (t : Int) (i : Nat) (a b : Int) : Option PT := if wU i N t a b = true then some (.one (.g (.bool true))) else none
theorem C9 (N : Nat -> ah) (t : Int) : xW N t 0 = fun _ _ => none := by
  funext a b; unfold xW; rw [if_neg]; intro h; obtain ⟨j, hj, _⟩ := of_decide_eq_true h; exact Nat.not_lt_zero j hj
theorem ajt {N : Nat -> ah} {t : Int} {i : Nat} (h : (N i).kd = 4 /\ (N i).fr <= t) : pI (xW N t i) ((N i).oc, (N i).ca) (.one (.g (.bool true))) = xW N t (i + 1) := by
  funext a b
  unfold pI xW
  by_cases hk : a = (N i).oc /\ b = (N i).ca
  · rw [if_pos hk, if_pos]
    exact decide_eq_true ⟨i, Nat.lt_succ_self i, h, hk.1.symm, hk.2.symm⟩
  · rw [if_neg hk]
    have e : wU i N t a b = wU (i + 1) N t a b := by
      unfold wU; rw [Bool.eq_iff_iff, decide_eq_true_eq, decide_eq_true_eq]
      constructor
      · rintro ⟨j, hj, g⟩; exact ⟨j, by omega, g⟩
      · rintro ⟨j, hj, g⟩
        rcases Nat.lt_or_ge j i with q | q
        · exact ⟨j, q, g⟩
        · obtain rfl : j = i := by omega
          exact absurd ⟨g.2.1.symm, g.2.2.symm⟩ hk
    rw [e]
theorem ajB {N : Nat -> ah} {t : Int} {i : Nat} (h : (N i).kd ≠ 4 \/ t < (N i).fr) : xW N t (i + 1) = xW N t i := by
  funext a b
  have e : wU (i + 1) N t a b = wU i N t a b := by
    unfold wU; rw [Bool.eq_iff_iff, decide_eq_true_eq, decide_eq_true_eq]
    constructor
    · rintro ⟨j, hj, g⟩
      rcases Nat.lt_or_ge j i with q | q
      · exact ⟨j, q, g⟩
      · obtain rfl : j = i := by omega
        exfalso
        rcases h with h | h
        · exact h g.1.1
        · have := g.1.2; omega
    · rintro ⟨j, hj, g⟩; exact ⟨j, by omega, g⟩
  unfold xW; rw [e]
theorem ahK {n : Nat} {N : Nat -> ah} {t a b : Int} (h : wU n N t a b = true) : xW N t n a b = some (.one (.g (.bool true))) := by unfold xW; rw [if_pos h]
theorem ag5 {n : Nat} {N : Nat -> ah} {t a b : Int} (h : wU n N t a b = false) : xW N t n a b = none := by unfold xW; rw [if_neg (by rw [h]; simp)]
def yD (n : Nat) (N : Nat -> ah) (t : Int) (i : Nat) : Bool := ai0 (N i) t && decide ((N i).fr <= t) && !wU n N t (N i).oc (N i).nu
def sG (n : Nat) (N : Nat -> ah) (t : Int) : Nat -> List Int
  | 0 => []
  | i + 1 => if yD n N t i = true then sG n N t i ++ [(i : Int)] else sG n N t i
theorem D9 (n : Nat) (N : Nat -> ah) (t : Int) : sG n N t 0 = [] := rfl
theorem ajS {n : Nat} {N : Nat -> ah} {t : Int} {i : Nat} (h : yD n N t i = true) : sG n N t (i + 1) = sG n N t i ++ [(i : Int)] := by show (if _ then _ else _) = _; rw [if_pos h]
theorem L8 {n : Nat} {N : Nat -> ah} {t : Int} {i : Nat} (h : yD n N t i = false) : sG n N t (i + 1) = sG n N t i := by show (if _ then _ else _) = _; rw [if_neg (by rw [h]; simp)]
theorem Gb (n : Nat) (N : Nat -> ah) (t : Int) : ∀ i, (sG n N t i).length <= i
  | 0 => Nat.le_refl _
  | i + 1 => by
    have := Gb n N t i
    show (if _ then _ else _ : List Int).length <= _
    split
    · simp; omega
    · omega
theorem alA {n : Nat} {N : Nat -> ah} {t : Int} {i : Nat} (h : (N i).fr <= t) (h2 : wU n N t (N i).oc (N i).nu = false) (h3 : (N i).kd = 3 \/ (N i).kd = 2 /\ t < (N i).un) : yD n N t i = true := by
  unfold yD ai0; rw [h2, decide_eq_true h, decide_eq_true h3]; rfl
theorem ahS {n : Nat} {N : Nat -> ah} {t : Int} {i : Nat} (h : t < (N i).fr) : yD n N t i = false := by
  unfold yD; rw [decide_eq_false (by omega), Bool.and_false]; rfl
theorem akd {n : Nat} {N : Nat -> ah} {t : Int} {i : Nat} (h : wU n N t (N i).oc (N i).nu = true) : yD n N t i = false := by
  unfold yD; rw [h]; simp
theorem ajy {n : Nat} {N : Nat -> ah} {t : Int} {i : Nat} (h : ¬ ((N i).kd = 3 \/ (N i).kd = 2 /\ t < (N i).un)) : yD n N t i = false := by
  unfold yD ai0; rw [decide_eq_false h]; rfl
theorem ajY {n : Nat} {N : Nat -> ah} {t : Int} {i : Nat} (h : (N i).kd ≠ 3 /\ ((N i).kd ≠ 2 \/ (N i).un <= t)) : yD n N t i = false := ajy (by omega)
def acB (n : Nat) (N : Nat -> ah) (t : Int) : Bool := decide (n <= 200 /\ (0 <= t /\ t <= 10000000) /\ ∀ i, i < n -> iy (N i) = true)
def acE (n : Nat) (N : Nat -> ah) (t : Int) : Int := if acB n N t = true then 0 else 1
def mO (n : Nat) (N : Nat -> ah) (t : Int) : List Int := if acB n N t = true then sG n N t n else []
theorem amT {n : Nat} {N : Nat -> ah} {t : Int} (h : acB n N t = false) : mO n N t = [] /\ acE n N t = 1 := by unfold mO acE; rw [h]; exact ⟨rfl, rfl⟩
theorem aoM {n : Nat} {N : Nat -> ah} {t : Int} (h : (n : Int) > 200 \/ ¬ (0 <= t /\ t <= 10000000)) : mO n N t = [] /\ acE n N t = 1 := amT (decide_eq_false fun g => by omega)
theorem aoZ {n : Nat} {N : Nat -> ah} {t : Int} {i : Nat} (hi : (i : Int) < n) (h : iy (N i) = false) : mO n N t = [] /\ acE n N t = 1 := amT (decide_eq_false fun g => by have := g.2.2 i (by omega); rw [h] at this; cases this)
theorem aov {n : Nat} {N : Nat -> ah} {t : Int} {i : Nat} (h : (n : Int) <= 200 /\ (0 <= t /\ t <= 10000000)) (hi : (n : Int) <= i) (g : ∀ j, j < i -> iy (N j) = true) : mO n N t = sG n N t n /\ acE n N t = 0 := by
  have e : acB n N t = true := decide_eq_true ⟨by omega, h.2, fun j hj => g j (by omega)⟩
  unfold mO acE; rw [e]; exact ⟨rfl, rfl⟩
theorem aj4 (M : ah) (hM : M.Ok) : aA Tryz.prog 63 [.agg [.g (.int .i64 M.oc), .g (.int .i64 M.nu), .g (.int .i64 M.kd), .g (.int .i64 M.fr), .g (.int .i64 M.un), .g (.int .i64 M.ca), .lst 3 M.n (dZ M.p)]] (.t (.one (.g (.bool (!iy M))))) := by
  refine ak Tryz.func63 rfl (by rw [Tryz.ntmps63]; simp) ?_
  simp only [Tryz.ntmps63, zM, PT.tv, au, Nat.zero_add, Nat.reduceAdd]
  repeat' (first
 | ((with_reducible show AW _ _ _ _); first
 | (with_reducible first | refine aS (fun K hK => ?_) | refine aT ?_)
 | (first
 | (with_reducible first | refine aP 0 [0] ?_ | refine aP 1 [1] ?_)))
 | (((with_reducible refine Need.mk ?_)); focus (exact True.intro))
 | (with_reducible refine aK ?_)
 | ((with_reducible show aZ _ _ _ _ _ _ _ _ _ _); first
 | (refine aG (k := 18) jE (pU M hM) ?_ ?_))
 | ((fail_if_success (with_reducible show AW _ _ _ _)); simp (maxSteps := 2000000) only [go_sem, reduceIte, reduceCtorEq, xA, xL, xD, xE, xM, xS, xB, Tryz.f63, bC])
 | ((with_reducible refine hK _ ?_); clear hK K))
theorem alY (n : Nat) (N : Nat -> ah) (hn : n <= 9223372036854775807) (hN : ∀ i, i < n -> (N i).Ok) (t : Int) : aA Tryz.prog 22 [.one (.lst 7 n (dX N)), .one (.g (.int .i64 t))] (.tup [.one (.lst 1 (mO n N t).length (bC (zL (mO n N t)))), .one (.g (.int .i64 (acE n N t)))]) := by
  have hfk : True := trivial
  have mk1 : True := trivial
  refine ak Tryz.func22 rfl (by rw [Tryz.ntmps22]; simp) ?_
  simp only [Tryz.ntmps22, zM, PT.tv, au, Nat.zero_add, Nat.reduceAdd]
  repeat' (first
 | ((with_reducible show AW _ _ _ _); first
 | (with_reducible first | refine aS (fun K hK => ?_) | refine aI ?_ | refine aX ?_ | refine aT ?_ | refine aC ?_ | refine aB ?_)
 | (first
 | (with_reducible first | refine aP 0 [0,1] ?_ | refine aP (ops := #[⟨some 12, _, _, _, _, _⟩, _, _, _, _, _, _, _, _, _, _, _]) 1 [0,1] ?_ | refine aP (ops := #[⟨some 5, _, _, _, _, _⟩, _, _, _, _]) 1 [0,1] ?_ | refine aP (ops := #[⟨some 6, _, _, _, _, _⟩, _, _]) 1 [0,1] ?_ | refine aP (ops := #[⟨some 4, _, _, _, _, _⟩, _]) 2 [] ?_ | refine aP (ops := #[⟨some 9, _, _, _, _, _⟩]) 2 [0,1,7,8] ?_ | refine aP (ops := #[⟨some 24, _, _, _, _, _⟩, _]) 3 [0,1] ?_ | refine aP (ops := #[⟨some 10, _, _, _, _, _⟩, _]) 3 [0,1,7,8] ?_ | refine aP (ops := #[⟨some 25, _, _, _, _, _⟩, _, _]) 4 [0,1,6] ?_ | refine aP (ops := #[⟨some 11, _, _, _, _, _⟩, _, _, _, _, _]) 4 [0,1,5,7,8] ?_ | refine aP (ops := #[⟨some 28, _, _, _, _, _⟩]) 5 [0,1,6,25,26,27] ?_ | refine aP (ops := #[⟨some 17, _, _, _, _, _⟩, _]) 5 [5] ?_ | refine aP (ops := #[⟨some 29, _, _, _, _, _⟩, _, _, _]) 6 [0,1,6,25,26,27] ?_ | refine aP (ops := #[⟨some 18, _, _, _, _, _⟩, _]) 6 [0,1,7,8] ?_ | refine aP (ops := #[⟨some 31, _, _, _, _, _⟩, _, _, _, _, _, _, _, _]) 7 [0,1,6,8,25,26,27] ?_ | refine aP (ops := #[⟨some 4, _, _, _, _, _⟩]) 7 [] ?_ | refine aP 8 [0,1,6,8,25,26,27] ?_ | refine aP 9 [0,1,6,25,26,27] ?_ | refine aP 10 [0,1,6] ?_ | refine aP 11 [0,1,6,9] ?_ | refine aP 12 [1,6,9,47,48,49] ?_ | refine aP 13 [1,6,9,47,48,49] ?_ | refine aP 14 [1,6,9,10,11,47,48,49] ?_ | refine aP 15 [1,6,9,10,11,47,48,49] ?_ | refine aP 16 [1,6,9,10,47,48,49] ?_ | refine aP 17 [1,6,9,47,48,49] ?_ | refine aP 18 [9] ?_))
 | ((with_reducible show AW _ (Code.loop _) _ _); first
 | ((with_reducible refine aL (c := (Code.seq (Code.region 2 _ _) _)) (ι := Nat) [0,1,7] (fun j => [(8, iA .i64 (j : Int))]) (fun j => []) (fun j => j <= n /\ (∀ i, i < j -> iy (N i) = true)) (fun j => n - j) 0 ?lg2 ?l12 ?l22 ?li2 ?lr2); (case' lg2 => rintro j _); (case' li2 => try (exact ⟨Nat.zero_le _, fun i hi => absurd hi (Nat.not_lt_zero _)⟩)); (case' lr2 => rintro j ⟨hj, hai⟩ KR hR2; simp only [bG, dL, hset, lk, if_true, if_false, xE, reduceIte, zN, D9, bD, fI, bf, maxLen, List.length_append, hfk, C9]))
 | ((with_reducible refine aL (c := (Code.seq (Code.region 5 _ _) _)) (ι := Nat) [0,1,6,25,26] (fun u => [(27, iA .i64 (u : Int))]) (fun u => [(0, [.m2 (xW N t u)])]) (fun u => u <= n) (fun u => n - u) 0 ?lg5 ?l15 ?l25 ?li5 ?lr5); (case' lg5 => rintro u _); (case' li5 => try (omega)); (case' lr5 => rintro u hu KR hR5; simp only [bG, dL, hset, lk, if_true, if_false, xE, reduceIte, zN, D9, bD, fI, bf, maxLen, List.length_append, hfk, C9]))
 | ((with_reducible refine aL (c := (Code.seq (Code.region 12 _ _) _)) (ι := Nat) [1,6,47,48] (fun i => [(9, .t (.one (.slc 1 0 (sG n N t i).length 1))), (49, iA .i64 (i : Int))]) (fun i => [(1, dY (sG n N t i))]) (fun i => i <= n) (fun i => n - i) 0 ?lg12 ?l112 ?l212 ?li12 ?lr12); (case' lg12 => rintro i _); (case' li12 => try (omega)); (case' lr12 => rintro i hi KR hR12; have oL := Gb n N t i; simp only [bG, dL, hset, lk, if_true, if_false, xE, reduceIte, zN, D9, bD, fI, bf, maxLen, List.length_append, hfk, C9]))))
 | ((first | (with_reducible refine And.intro ?_ ?_) | (with_reducible refine Need.mk ?_)); focus (first | exact True.intro | omega | (intro _; (with_reducible assumption)) | (simp; done) | (simp; omega)))
 | (with_reducible refine aK ?_)
 | ((with_reducible show bL _ _ _ _ _ _); first
 | ((with_reducible refine aN ?_ ?_) <;> (intro hc; (try simp only [zB, zC, reduceCtorEq] at hc); ((try (have e0 : n = i := (by omega); subst e0)); (try (have e1 : n = u := (by omega); subst e1)); (try (clear mk1; clear hfk; cases hq : wU n N t (N i).oc (N i).nu; all_goals (first | (have hfk := ahK hq) | (have hfk := ag5 hq))))); (try (exfalso; omega)))))
 | ((with_reducible show aZ _ _ _ _ _ _ _ _ _ _); first
 | (refine aG (k := 63) afC (aj4 (N j) (hN j (by omega))) ?_ ?_)
 | ((refine bW (k := 62) Tryz.func62 rfl PI (by rw [Tryz.ntmps62]; simp) ?_ ?_ (fun K hK => ?_)); (focus ((simp; omega))); (focus ((simp [iZ]; done))); simp only [Tryz.ntmps62, List.map_cons, List.map_nil, List.nil_append, List.cons_append, List.append_nil, LV.tv, au, Nat.zero_add, Nat.reduceAdd])
 | ((refine bW (k := 111) Tryz.func111 rfl Jb (by rw [Tryz.ntmps111]; simp) ?_ ?_ (fun K hK => ?_)); (focus (exact True.intro)); (focus ((simp [iZ]; done))); simp only [Tryz.ntmps111, List.map_cons, List.map_nil, List.nil_append, List.cons_append, List.append_nil, LV.tv, au, Nat.zero_add, Nat.reduceAdd]))
 | ((with_reducible show bM _ _ _ _ _ _ _ _ _ _); first
 | (refine aV (k := 51) Ah (fun hg => El _) ?_ ?_)
 | ((refine nP (k := 62) ?_ ?_) <;> (intro hc; (try simp only [zB, zC, reduceCtorEq] at hc); (try (exfalso; contradiction)))))
 | ((with_reducible refine hR2 _ (j + 1) ?_); (try clear hR2 KR))
 | ((with_reducible refine hR5 _ (u + 1) ?_); (try clear hR5 KR))
 | ((with_reducible refine hR12 _ (i + 1) ?_); (try clear hR12 KR))
 | ((with_reducible refine Told.mk ?_); simp only [go_sem, reduceIte, reduceCtorEq, xA, xL, xD, xE, xM, xS, xB, bC, D9, bD, fI, bf, maxLen, List.length_append, hfk, C9] <;> (first | (((try simp (disch := omega) only [aY, Int.natCast_add, Int.cast_ofNat_Int, and_true, true_and, and_self]); (repeat' (first | omega | rfl | (with_reducible refine And.intro ?_ ?_) | (exact all_succ (by assumption) (by assumption)))); done)) | (((try simp (disch := omega) only [aY, Int.natCast_add, Int.cast_ofNat_Int, and_true, true_and, and_self]); (repeat' (first | omega | (with_reducible refine And.intro ?_ ?_) | ((exact Or.inl (by rw [ajt (by assumption)]))) | ((exact Or.inl (by rw [ajB (by assumption)]))))); done)) | (((try simp (disch := omega) only [aY, Int.natCast_add, Int.cast_ofNat_Int, and_true, true_and, and_self]); (repeat' (first | omega | (with_reducible refine And.intro ?_ ?_) | ((first | rw [ajS (alA (by assumption) (by assumption) (by assumption))] | rw [L8 (ajY (by assumption))] | rw [L8 (ahS (by assumption))] | rw [L8 (akd (by assumption))])) | ((exact kZ rfl (iI _))) | ((simp only [List.length_append, List.length_cons, List.length_nil, Nat.zero_add]; done)))); done))))
 | ((fail_if_success (with_reducible show AW _ _ _ _)); simp (maxSteps := 2000000) only [go_sem, reduceIte, reduceCtorEq, xA, xL, xD, xE, xM, xS, xB, Tryz.f22, Tryz.f62, Tryz.f111, bC, D9, bD, fI, bf, maxLen, List.length_append, hfk, C9])
 | ((with_reducible refine hK _ ?_); clear hK K)
 | (with_reducible apply_assumption -exfalso only [*]))
  all_goals (first | (have e := aoM (n := n) (N := N) (t := t) (by assumption); rw [e.1, e.2]; (repeat' (first | exact rfl | (with_reducible refine And.intro ?_ ?_))); done) | (have e := aoZ (n := n) (N := N) (t := t) (by assumption) (by assumption); rw [e.1, e.2]; (repeat' (first | exact rfl | (with_reducible refine And.intro ?_ ?_))); done) | (have e := aov (n := n) (N := N) (t := t) (by assumption) (by assumption) hai; rw [e.1, e.2]; (repeat' (first | exact rfl | (with_reducible refine And.intro ?_ ?_) | (intro i q hi hq; exact FD _ i q hi hq) | (exact fun c hc9 => (by have := iI _ c hc9; cases c <;> trivial)))); done))
end Go.Proofs.YtcfechepbamhkaaGreat
namespace Go.Sea
open Go.RowKit
def LV.mv (a b : Nat) : LV -> LV
  | .ptr k o => .ptr (if k = a then b else k) o
  | .mp k => .mp (if k = a then b else k)
  | c => c
def CV.mv (a b : Nat) : CV -> CV
  | .slc k off n E => .slc (if k = a then b else k) off n E
  | .ptr k o => .ptr (if k = a then b else k) o
  | .fn f x y => .fn f (x.map (LV.mv a b)) (y.map (LV.mv a b))
  | .mp k => .mp (if k = a then b else k)
  | .it k => .it (if k = a then b else k)
  | .ml l => .ml (l.map fun x => (x.1, x.2.1, x.2.2.1.map (LV.mv a b), x.2.2.2.map (LV.mv a b)))
  | .mt j c p q => .mt (if j = a then b else j) c p q
  | c => c
def TV.mv (a b : Nat) : TV -> TV
  | .one c => .one (c.mv a b)
  | .agg cs => .agg (cs.map (CV.mv a b))
def AV.mv (a b : Nat) : AV -> AV
  | .t x => .t (x.mv a b)
  | .tup xs => .tup (xs.map (TV.mv a b))
  | .mb c x => .mb c (x.mv a b)
  | .any => .any
def mvE (a b : Nat) (e : List (Nat × AV)) : List (Nat × AV) := e.map fun p => (p.1, p.2.mv a b)
def mvG (a b : Nat) (g : List (Nat × List (Nat × AV))) : List (Nat × List (Nat × AV)) := g.map fun p => (p.1, mvE a b p.2)
def IL (a b : Nat) (o : Option (List CV)) : Option (List CV) := o.map (List.map (CV.mv a b))
def mvH (a b : Nat) (h : List (Option (List CV))) : List (Option (List CV)) := hdel (h.map (IL a b)) a ++ [IL a b (hget h a)]
def AS.mv (a b : Nat) (s : AS) : AS := ⟨mvE a b s.env, mvH a b s.heap, s.N, mvG a b s.gh, s.lp⟩
theorem VG (a b t : Nat) : ∀ env : List (Nat × AV), lk (mvE a b env) t = (lk env t).mv a b
  | [] => rfl
  | (k, v) :: r => by
    simp only [mvE, List.map_cons, lk]
    split
    · rfl
    · exact VG a b t r
theorem af7 (a b f : Nat) : ∀ g : List (Nat × List (Nat × AV)), gf (mvG a b g) f = mvE a b (gf g f)
  | [] => rfl
  | (k, v) :: r => by
    simp only [mvG, List.map_cons, gf]
    split
    · rfl
    · exact af7 a b f r
theorem KA : ∀ (h : List (Option (List CV))) (i : Nat), (hdel h i).length = h.length
  | [], i => by simp [hdel]
  | x :: h, 0 => by simp [hdel]
  | x :: h, i + 1 => by simp [hdel, KA h i]
theorem PY (a : Nat) (h : List (Option (List CV))) (k : Nat) : hget (mvH a h.length h) k = if k = h.length then IL a h.length (hget h a) else if k = a then none else IL a h.length (hget h k) := by
  unfold mvH
  have hl : (hdel (h.map (IL a h.length)) a).length = h.length := by rw [KA, List.length_map]
  by_cases hk : k = h.length
  · rw [if_pos hk]
    subst hk
    unfold hget
    rw [List.getElem?_append_right (by omega), hl]
    simp
  · rw [if_neg hk]
    have e1 : hget (hdel (h.map (IL a h.length)) a ++ [IL a h.length (hget h a)]) k = hget (hdel (h.map (IL a h.length)) a) k := by
      unfold hget
      by_cases hlt : k < h.length
      · rw [List.getElem?_append_left (by omega)]
      · rw [List.getElem?_eq_none (by simp [hl]; omega), List.getElem?_eq_none (by omega)]
    rw [e1, ru]
    by_cases ha : k = a
    · rw [if_pos ha, if_pos ha]
    · rw [if_neg ha, if_neg ha]
      unfold hget IL
      rw [List.getElem?_map]
      cases h[k]? <;> rfl
section
variable {w0 : World} {Z0 : Fr} {J J' : Nat -> Option Nat} {Z : Nat -> Prop} {s : AS} {ac : Act} {w : World} {a b : Nat}
theorem j3.mv (hJ : ∀ k x, J k = some x -> J' (if k = a then b else k) = some x) {v : Value} {l : LV} (h : j3 w J Z v l) : j3 w J' Z v (l.mv a b) := by
  cases l with
  | iv c => exact h
  | ptr k o => obtain ⟨x, e, hx, ho⟩ := h; exact ⟨x, e, hJ k x hx, ho⟩
  | mp k => obtain ⟨x, e, hx⟩ := h; exact ⟨x, e, hJ k x hx⟩
theorem bK.mv (hJ : ∀ k x, J k = some x -> J' (if k = a then b else k) = some x) {v : Value} {c : CV} (h : bK w J Z v c) : bK w J' Z v (c.mv a b) := by
  cases c with
  | iv c => exact h
  | ip m c => exact h
  | slc k off n E =>
    rcases h with h | ⟨x, cap, c, e, hv, hx, r⟩
    · exact Or.inl h
    · exact Or.inr ⟨x, cap, c, e, hv, hJ k x hx, r⟩
  | ptr k o => obtain ⟨x, e, hx, ho⟩ := h; exact ⟨x, e, hJ k x hx, ho⟩
  | mp k => obtain ⟨x, e, hx⟩ := h; exact ⟨x, e, hJ k x hx⟩
  | it k => obtain ⟨x, e, hx⟩ := h; exact ⟨x, e, hJ k x hx⟩
  | mi => exact h.elim
  | m2 => exact h.elim
  | ml => exact h.elim
  | mt => exact h.elim
  | fn f x y =>
    obtain ⟨A, B, e, h1, h2⟩ := h
    exact ⟨A, B, e, aO.dG.2 (h1.mono fun _ _ => j3.mv hJ), aO.dG.2 (h2.mono fun _ _ => j3.mv hJ)⟩
  | any => exact h
theorem jo.mv (hJ : ∀ k x, J k = some x -> J' (if k = a then b else k) = some x) {c : Nat} {cs : List CV} (h : jo w J Z c cs) : jo w J' Z c (cs.map (CV.mv a b)) := by
  unfold jo at h
  split at h
  · obtain ⟨rfl, h⟩ := h
    exact ⟨rfl, h⟩
  · obtain ⟨rfl, h⟩ := h
    exact ⟨rfl, h⟩
  · obtain ⟨rfl, es, clock, h1, h2, h3⟩ := h
    exact ⟨rfl, es, clock, h1, h2, (aO.dG (f := fun x : Int × Fn × List LV × List LV => (x.1, x.2.1, x.2.2.1.map (LV.mv a b), x.2.2.2.map (LV.mv a b)))).2 (h3.mono fun _ _ hr => ⟨hr.1, bK.mv hJ hr.2⟩)⟩
  · obtain ⟨rfl, m, seen, es, clock, h1, h2, h3⟩ := h
    exact ⟨rfl, m, seen, es, clock, h1, hJ _ _ h2, h3⟩
  · rcases h with ⟨c, e, h1, h2⟩ | ⟨⟨o, h1, h2⟩, h3⟩
    · refine jo.of h1 ?_
      rw [List.length_map]
      exact aO.dG.2 (h2.mono fun _ _ => bK.mv hJ)
    · refine jo.dead h1 h2 fun c hc => ?_
      obtain ⟨c', hc', rfl⟩ := List.mem_map.1 hc
      rw [h3 c' hc']; rfl
theorem bQ.mv (hJ : ∀ k x, J k = some x -> J' (if k = a then b else k) = some x) {v : Value} {c : TV} (h : bQ w J Z v c) : bQ w J' Z v (c.mv a b) := by
  cases c with
  | one c => exact bK.mv hJ h
  | agg cs => obtain ⟨A, e, h⟩ := h; exact ⟨A, e, aO.dG.2 (h.mono fun _ _ => bK.mv hJ)⟩
theorem bB.mv (hJ : ∀ k x, J k = some x -> J' (if k = a then b else k) = some x) {v : Value} {c : AV} (h : bB w J Z v c) : bB w J' Z v (c.mv a b) := by
  cases c with
  | t x => exact bQ.mv hJ h
  | tup xs => obtain ⟨A, e, h⟩ := h; exact ⟨A, e, aO.dG.2 (h.mono fun _ _ => bQ.mv hJ)⟩
  | mb c x => exact ⟨fun hc => bQ.mv hJ (h.1 hc), h.2⟩
  | any => trivial
theorem Rel.mv (R : Rel w0 Z0 J Z s ac w) (ha : (hget s.heap a).isSome = true) : Rel w0 Z0 (fun k => if k = s.heap.length then J a else if k = a then none else J k) Z (s.mv a s.heap.length) ac w := by
  have hla : a < s.heap.length := by
    refine Nat.lt_of_not_le fun h => ?_
    rw [uF _ _ h] at ha
    cases ha
  have hJ : ∀ k x, J k = some x -> (fun k => if k = s.heap.length then J a else if k = a then none else J k) (if k = a then s.heap.length else k) = some x := fun k x hx => by
    by_cases h : k = a
    · subst h; simp [hx]
    · simp only [if_neg h]
      rw [if_neg]
      · exact hx
      · rintro rfl
        rw [R.hole _ (uF _ _ (Nat.le_refl _))] at hx
        cases hx
  have sub : ∀ k x, (if k = s.heap.length then J a else if k = a then none else J k) = some x -> ∃ q, J q = some x /\ ((k = s.heap.length /\ q = a) \/ (k ≠ s.heap.length /\ k ≠ a /\ q = k)) := fun k x h => by
    split at h
    · rename_i e; exact ⟨a, h, Or.inl ⟨e, rfl⟩⟩
    · rename_i e1
      split at h
      · cases h
      · rename_i e2; exact ⟨k, h, Or.inr ⟨e1, e2, rfl⟩⟩
  refine ⟨R.nodef, R.size, R.below, R.zfrom, R.zlt, fun k x h => ?_, fun k j x hk hj => ?_, fun k h => ?_, fun k cs h hne => ?_, fun t => ?_, fun f t => ?_, R.loops, R.lnd, R.ro⟩
  · obtain ⟨q, hq, _⟩ := sub k x h
    exact R.jlt q x hq
  · obtain ⟨q1, h1, e1⟩ := sub k x hk
    obtain ⟨q2, h2, e2⟩ := sub j x hj
    have := R.inj q1 q2 x h1 h2
    omega
  · simp only [AS.mv] at h
    rw [PY] at h
    by_cases h1 : k = s.heap.length
    · rw [if_pos h1] at h
      cases hc : hget s.heap a with
      | none => rw [hc] at ha; cases ha
      | some cs => rw [hc] at h; simp [IL] at h
    · rw [if_neg h1] at h ⊢
      by_cases h2 : k = a
      · rw [if_pos h2]
      · rw [if_neg h2] at h ⊢
        refine R.hole k ?_
        cases hc : hget s.heap k with
        | none => rfl
        | some cs => rw [hc] at h; simp [IL] at h
  · simp only [AS.mv] at h
    rw [PY] at h
    have one : ∀ q, IL a s.heap.length (hget s.heap q) = some cs -> ∃ b, J q = some b /\ jo w (fun k => if k = s.heap.length then J a else if k = a then none else J k) Z b cs := fun q hq => by
      cases hc : hget s.heap q with
      | none => rw [hc] at hq; simp [IL] at hq
      | some c0 =>
        rw [hc] at hq
        simp only [IL, Option.map_some, Option.some.injEq] at hq
        subst hq
        obtain ⟨b, g1, g2⟩ := R.blk q c0 hc (by rintro rfl; exact hne rfl)
        exact ⟨b, g1, g2.mv hJ⟩
    by_cases h1 : k = s.heap.length
    · rw [if_pos h1] at h
      obtain ⟨b, g1, g2⟩ := one a h
      exact ⟨b, by rw [if_pos h1]; exact g1, g2⟩
    · rw [if_neg h1] at h
      by_cases h2 : k = a
      · rw [if_pos h2] at h; cases h
      · rw [if_neg h2] at h
        obtain ⟨b, g1, g2⟩ := one k h
        exact ⟨b, by rw [if_neg h1, if_neg h2]; exact g1, g2⟩
  · show bB _ _ _ _ (lk (mvE a s.heap.length s.env) t)
    rw [VG]; exact bB.mv hJ (R.slots t)
  · show bB _ _ _ _ (lk (gf (mvG a s.heap.length s.gh) f) t)
    rw [af7, VG]; exact bB.mv hJ (R.ghost f t)
end
def wu (F : Nat -> Nat -> IV) (n : Nat) : List (Option (List CV)) := (List.range n).map fun k => some (FP (F k) 64)
section
variable (F G : Nat -> Nat -> IV) (n k a b : Nat)
theorem Dj : (wu F n).length = n := by simp [wu]
theorem RU : wu F 0 = [] := rfl
theorem Gd {F : Nat -> Nat -> IV} {n k : Nat} (h : k < n) : (wu F n)[k]? = some (some (FP (F k) 64)) := by simp [wu, h]
theorem Si : wu F n ++ [some (FP (F n) 64)] = wu F (n + 1) := by simp [wu, List.range_succ]
theorem Jr {l : List (Option (List CV))} (hl : l.length = n) (h : ∀ j, j < n -> l[j]? = some (some (FP (F j) 64))) : l = wu F n := by
  refine List.ext_getElem? fun j => ?_
  by_cases hj : j < n
  · rw [h j hj, Gd hj]
  · rw [List.getElem?_eq_none (by omega), List.getElem?_eq_none (by rw [Dj]; omega)]
theorem MC : List.map (fun o => Option.map (ig a) o) (wu F n) = wu F n := by
  refine Jr _ _ (by simp [Dj]) fun j hj => ?_
  rw [List.getElem?_map, Gd hj]
  simp [ig, UW]
theorem ab0 (f : Nat -> IV) : List.map (CV.mv a b) (FP f n) = FP f n := by
  refine (List.map_congr_left fun c hc => ?_).trans (List.map_id _)
  have := NR f n c hc
  cases c <;> first | rfl | exact this.elim
theorem adJ : List.map (IL a b) (wu F n) = wu F n := by
  refine Jr _ _ (by simp [Dj]) fun j hj => ?_
  rw [List.getElem?_map, Gd hj]
  simp [IL, ab0]
end
def agf {ι : Type} (N : Nat) (lp : LP) (g : List (Nat × List (Nat × AV))) (C : ι -> List (Nat × AV)) (H : ι -> List (Option (List CV))) (I : ι -> Prop) (μ : ι -> Nat) (e : List (Nat × AV)) (U : List Nat) (i j : ι) (s' : AS) : Prop :=
  N = s'.N /\ lp = s'.lp /\ g = s'.gh /\ I j /\ μ j < μ i /\ Td (H j) s'.env (C j ++ bG e U) /\ Ij (okB (H j)) s'.heap (H j)
def z8 (H : List (Option (List CV))) (g : List (Nat × List (Nat × AV))) : Prop := ∀ p, p ∈ g -> ∀ q, q ∈ p.2 -> q.2.ok (okB H)
theorem LV.jd {p q : Nat -> Prop} (h : ∀ i, p i -> q i) {c : LV} (hc : c.ok p) : c.ok q := by cases c <;> first | trivial | exact h _ hc
theorem CV.jd {p q : Nat -> Prop} (h : ∀ i, p i -> q i) {c : CV} (hc : c.ok p) : c.ok q := by
  cases c <;> first | trivial | exact h _ hc | exact ⟨fun l hl => LV.jd h (hc.1 l hl), fun l hl => LV.jd h (hc.2 l hl)⟩ | exact fun x hx => ⟨fun l hl => LV.jd h ((hc x hx).1 l hl), fun l hl => LV.jd h ((hc x hx).2 l hl)⟩
theorem TV.jd {p q : Nat -> Prop} (h : ∀ i, p i -> q i) {c : TV} (hc : c.ok p) : c.ok q := by
  cases c with
  | one c => exact CV.jd h hc
  | agg cs => exact fun c hm => CV.jd h (hc c hm)
theorem AV.jd {p q : Nat -> Prop} (h : ∀ i, p i -> q i) {c : AV} (hc : c.ok p) : c.ok q := by
  cases c with
  | t x => exact TV.jd h hc
  | tup xs => exact fun c hm => TV.jd h (hc c hm)
  | mb b x => exact TV.jd h hc
  | any => trivial
theorem z8.mono {H H' : List (Option (List CV))} {g : List (Nat × List (Nat × AV))} (h : z8 H g) (hs : ∀ i, okB H i -> okB H' i) : z8 H' g := fun p hp q hq => AV.jd hs (h p hp q hq)
def Rf : List (Option (List CV)) -> List (Option (List CV)) -> Prop
  | [], _ => True
  | none :: h, [] => Rf h []
  | some _ :: _, [] => False
  | none :: h, _ :: h' => Rf h h'
  | some _ :: h, some _ :: h' => Rf h h'
  | some _ :: _, none :: _ => False
theorem nZ : ∀ {h h' : List (Option (List CV))}, Rf h h' -> ∀ i, okB h i -> okB h' i
  | [], _, _, i, hi => by simp [okB, hget] at hi
  | none :: h, [], H, 0, hi => by simp [okB, hget] at hi
  | none :: h, [], H, i + 1, hi => by
    unfold okB at hi
    rw [eF] at hi
    have := nZ (h := h) (h' := []) H i hi
    simp [okB, hget] at this
  | some _ :: _, [], H, _, _ => H.elim
  | none :: h, y :: h', H, 0, hi => by simp [okB, hget] at hi
  | none :: h, y :: h', H, i + 1, hi => by unfold okB at hi ⊢; rw [eF] at hi ⊢; exact nZ (h := h) (h' := h') H i hi
  | some _ :: h, some _ :: h', H, 0, hi => by simp [okB, hget]
  | some _ :: h, some _ :: h', H, i + 1, hi => by unfold okB at hi ⊢; rw [eF] at hi ⊢; exact nZ (h := h) (h' := h') H i hi
  | some _ :: _, none :: _, H, _, _ => H.elim
theorem CV.qw {p : Nat -> Prop} {i : Nat} (hi : ¬ p i) {c : CV} (hc : c.ok p) : c.has i = false := by
  cases c with
  | slc j off n E => exact beq_eq_false_iff_ne.2 fun e => hi (e ▸ hc)
  | ptr j o => exact beq_eq_false_iff_ne.2 fun e => hi (e ▸ hc)
  | mp j => exact beq_eq_false_iff_ne.2 fun e => hi (e ▸ hc)
  | it j => exact beq_eq_false_iff_ne.2 fun e => hi (e ▸ hc)
  | mt j c p q => exact beq_eq_false_iff_ne.2 fun e => hi (e ▸ hc)
  | ml l =>
    refine List.any_eq_false.2 fun x hx => ?_
    rw [Bool.not_eq_true]
    refine Bool.or_eq_false_iff.2 ⟨List.any_eq_false.2 fun l hl => ?_, List.any_eq_false.2 fun l hl => ?_⟩
    · have := (hc x hx).1 l hl
      cases l with
      | iv c => simp [LV.has]
      | ptr j o => simp only [LV.has, beq_iff_eq]; exact fun e => hi (e ▸ this)
      | mp j => simp only [LV.has, beq_iff_eq]; exact fun e => hi (e ▸ this)
    · have := (hc x hx).2 l hl
      cases l with
      | iv c => simp [LV.has]
      | ptr j o => simp only [LV.has, beq_iff_eq]; exact fun e => hi (e ▸ this)
      | mp j => simp only [LV.has, beq_iff_eq]; exact fun e => hi (e ▸ this)
  | fn f a b =>
    refine Bool.or_eq_false_iff.2 ⟨List.any_eq_false.2 fun l hl => ?_, List.any_eq_false.2 fun l hl => ?_⟩
    · have := hc.1 l hl
      cases l with
      | iv c => simp [LV.has]
      | ptr j o => simp only [LV.has, beq_iff_eq]; exact fun e => hi (e ▸ this)
      | mp j => simp only [LV.has, beq_iff_eq]; exact fun e => hi (e ▸ this)
    · have := hc.2 l hl
      cases l with
      | iv c => simp [LV.has]
      | ptr j o => simp only [LV.has, beq_iff_eq]; exact fun e => hi (e ▸ this)
      | mp j => simp only [LV.has, beq_iff_eq]; exact fun e => hi (e ▸ this)
  | _ => rfl
theorem TV.qw {p : Nat -> Prop} {i : Nat} (hi : ¬ p i) {c : TV} (hc : c.ok p) : c.has i = false := by
  cases c with
  | one c => exact CV.qw hi hc
  | agg cs => exact List.any_eq_false.2 fun c hm => by simp [CV.qw hi (hc c hm)]
theorem AV.qw {p : Nat -> Prop} {i : Nat} (hi : ¬ p i) {c : AV} (hc : c.ok p) : c.has i = false := by
  cases c with
  | t x => exact TV.qw hi hc
  | tup xs => exact List.any_eq_false.2 fun c hm => by simp [TV.qw hi (hc c hm)]
  | mb b x => exact TV.qw hi hc
  | any => rfl
theorem LV.nY {p : Nat -> Prop} {i b : Nat} (hi : ¬ p i) {c : LV} (hc : c.ok p) : c.mv i b = c := by
  cases c with
  | iv c => rfl
  | ptr k o => simp only [LV.mv]; rw [if_neg]; rintro rfl; exact hi hc
  | mp k => simp only [LV.mv]; rw [if_neg]; rintro rfl; exact hi hc
theorem CV.nY {p : Nat -> Prop} {i b : Nat} (hi : ¬ p i) {c : CV} (hc : c.ok p) : c.mv i b = c := by
  cases c with
  | slc k off n E => simp only [CV.mv]; rw [if_neg]; rintro rfl; exact hi hc
  | ptr k o => simp only [CV.mv]; rw [if_neg]; rintro rfl; exact hi hc
  | mp k => simp only [CV.mv]; rw [if_neg]; rintro rfl; exact hi hc
  | it k => simp only [CV.mv]; rw [if_neg]; rintro rfl; exact hi hc
  | mt k c p q => simp only [CV.mv]; rw [if_neg]; rintro rfl; exact hi hc
  | ml l =>
    simp only [CV.mv]
    congr 1
    refine (List.map_congr_left fun x hx => ?_).trans (List.map_id _)
    rw [(List.map_congr_left fun l hl => LV.nY hi ((hc x hx).1 l hl)).trans (List.map_id _), (List.map_congr_left fun l hl => LV.nY hi ((hc x hx).2 l hl)).trans (List.map_id _)]
    rfl
  | fn f x y =>
    simp only [CV.mv]
    rw [(List.map_congr_left fun l hl => LV.nY hi (hc.1 l hl)).trans (List.map_id _), (List.map_congr_left fun l hl => LV.nY hi (hc.2 l hl)).trans (List.map_id _)]
  | _ => rfl
theorem TV.nY {p : Nat -> Prop} {i b : Nat} (hi : ¬ p i) {c : TV} (hc : c.ok p) : c.mv i b = c := by
  cases c with
  | one c => simp only [TV.mv]; rw [CV.nY hi hc]
  | agg cs => simp only [TV.mv]; rw [(List.map_congr_left fun l hl => CV.nY hi (hc l hl)).trans (List.map_id _)]
theorem AV.nY {p : Nat -> Prop} {i b : Nat} (hi : ¬ p i) {c : AV} (hc : c.ok p) : c.mv i b = c := by
  cases c with
  | t x => simp only [AV.mv]; rw [TV.nY hi hc]
  | tup xs => simp only [AV.mv]; rw [(List.map_congr_left fun l hl => TV.nY hi (hc l hl)).trans (List.map_id _)]
  | mb b x => simp only [AV.mv]; rw [TV.nY hi hc]
  | any => rfl
theorem z8.bU {H : List (Option (List CV))} {g : List (Nat × List (Nat × AV))} (h : z8 H g) {i : Nat} (hi : hget H i = none) : qC i g = g := by
  refine (List.map_congr_left fun p hp => ?_).trans (List.map_id _)
  have : mK i p.2 = p.2 := (List.map_congr_left fun q hq => by
    have hn : ¬ okB H i := by unfold okB; rw [hi]; simp
    simp only [AV.bU, AV.qw hn (h p hp q hq), cond_false]
    rfl).trans (List.map_id _)
  rw [this]; rfl
theorem z8.mv {H : List (Option (List CV))} {g : List (Nat × List (Nat × AV))} (h : z8 H g) {i : Nat} (hi : hget H i = none) (b : Nat) : mvG i b g = g := by
  refine (List.map_congr_left fun p hp => ?_).trans (List.map_id _)
  have : mvE i b p.2 = p.2 := (List.map_congr_left fun q hq => by
    have hn : ¬ okB H i := by unfold okB; rw [hi]; simp
    rw [AV.nY hn (h p hp q hq)]
    rfl).trans (List.map_id _)
  rw [this]; rfl
theorem Xz : ∀ (e : List (Nat × AV)) (t : Nat), lk e t = .any \/ ∃ p, p ∈ e /\ lk e t = p.2
  | [], _ => Or.inl rfl
  | (k, v) :: r, t => by
    simp only [lk]
    split
    · exact Or.inr ⟨(k, v), by simp, rfl⟩
    · rcases Xz r t with h | ⟨p, hp, h⟩
      · exact Or.inl h
      · exact Or.inr ⟨p, by simp [hp], h⟩
theorem Wn : ∀ (g : List (Nat × List (Nat × AV))) (f : Nat), gf g f = [] \/ ∃ p, p ∈ g /\ gf g f = p.2
  | [], _ => Or.inl rfl
  | (k, v) :: r, t => by
    simp only [gf]
    split
    · exact Or.inr ⟨(k, v), by simp, rfl⟩
    · rcases Wn r t with h | ⟨p, hp, h⟩
      · exact Or.inl h
      · exact Or.inr ⟨p, by simp [hp], h⟩
theorem z8.wk {H : List (Option (List CV))} {g : List (Nat × List (Nat × AV))} (h : z8 H g) (f t : Nat) : wkA (fun i => (hget H i).isSome = true) (gk g f t) (gk g f t) := by
  refine Or.inr (Or.inl ⟨rfl, ?_⟩)
  show (lk (gf g f) t).ok _
  rcases Wn g f with e | ⟨p, hp, e⟩
  · rw [e]; trivial
  · rw [e]
    rcases Xz p.2 t with e' | ⟨q, hq, e'⟩
    · rw [e']; trivial
    · rw [e']; exact h p hp q hq
theorem Weak.akC {s : AS} {E : List (Nat × AV)} {H : List (Option (List CV))} (hg : z8 H s.gh) (h1 : Td H s.env E) (h2 : Ij (okB H) s.heap H) : Weak s ⟨E, H, s.N, s.gh, s.lp⟩ :=
  ⟨rfl, Gw (OJ h1), fun f t => hg.wk f t, rfl, kL h2⟩
theorem rG {P : Program} {s : AS} {Q : Exit -> AS -> Prop} {c : Code} {ι : Type} (U : List Nat) (C : ι -> List (Nat × AV)) (H : ι -> List (Option (List CV))) (I : ι -> Prop) (μ : ι -> Nat) (i0 : ι)
    (hg : ∀ i, I i -> z8 (H i) s.gh) (h1 : Told (Td (H i0) s.env (C i0 ++ bG s.env U))) (h2 : Told (Ij (okB (H i0)) s.heap (H i0))) (hi : I i0)
    (round : ∀ i, I i -> ∀ K : AS -> Prop, (∀ s' j, Told (agf s.N s.lp s.gh C H I μ s.env U i j s') -> K s') -> AW P c ⟨C i ++ bG s.env U, H i, s.N, s.gh, s.lp⟩ (rZ K Q)) : AW P (.loop c) s Q := by
  refine PO (fun n s' => ∃ i, I i /\ n = μ i /\ s' = ⟨C i ++ bG s.env U, H i, s.N, s.gh, s.lp⟩) (μ i0) ⟨_, Weak.akC (hg i0 hi) h1.out h2.out, i0, hi, rfl, rfl⟩ ?_
  rintro n s' ⟨i, hI, rfl, rfl⟩
  refine (round i hI (fun s' => ∃ m s1, m < μ i /\ Weak s' s1 /\ ∃ i, I i /\ m = μ i /\ s1 = ⟨C i ++ bG s.env U, H i, s.N, s.gh, s.lp⟩) fun s' j h => ?_)
  obtain ⟨g1, g2, g3, g4, g5, g6, g7⟩ := h.out
  refine ⟨μ j, _, g5, ?_, j, g4, rfl, rfl⟩
  have := Weak.akC (s := s') (E := C j ++ bG s.env U) (H := H j) (g3 ▸ hg j g4) g6 g7
  rw [<- g1, <- g2, <- g3] at this
  exact this
def LV.here (H : List (Option (List CV))) : LV -> Bool
  | .ptr i _ | .mp i => (hget H i).isSome
  | _ => true
def CV.cl (H : List (Option (List CV))) : CV -> CV
  | .slc i off n E => if (hget H i).isSome = true then .slc i off n E else .any
  | .ptr i o => if (hget H i).isSome = true then .ptr i o else .any
  | .mp i => if (hget H i).isSome = true then .mp i else .any
  | .it i => if (hget H i).isSome = true then .it i else .any
  | .ml _ | .mt _ _ _ _ => .any
  | .fn f a b => if (a.all (LV.here H) && b.all (LV.here H)) = true then .fn f a b else .any
  | c => c
def TV.cl (H : List (Option (List CV))) : TV -> TV
  | .one c => .one (c.cl H)
  | .agg cs => .agg (cs.map (CV.cl H))
def AV.cl (H : List (Option (List CV))) : AV -> AV
  | .t x => .t (x.cl H)
  | .tup xs => .tup (xs.map (TV.cl H))
  | .mb b x => .mb b (x.cl H)
  | .any => .any
theorem LV.PU {H : List (Option (List CV))} {l : LV} (h : l.here H = true) : l.ok (okB H) := by cases l <;> first | trivial | exact h
theorem CV.y9 (H : List (Option (List CV))) (c : CV) : (c.cl H).ok (okB H) := by
  cases c with
  | slc i off n E => simp only [CV.cl]; split <;> first | assumption | trivial
  | ptr i o => simp only [CV.cl]; split <;> first | assumption | trivial
  | mp i => simp only [CV.cl]; split <;> first | assumption | trivial
  | it i => simp only [CV.cl]; split <;> first | assumption | trivial
  | fn f a b =>
    simp only [CV.cl]
    split
    · rename_i h
      rw [Bool.and_eq_true, List.all_eq_true, List.all_eq_true] at h
      exact ⟨fun l hl => LV.PU (h.1 l hl), fun l hl => LV.PU (h.2 l hl)⟩
    · trivial
  | _ => trivial
theorem TV.y9 (H : List (Option (List CV))) (c : TV) : (c.cl H).ok (okB H) := by
  cases c with
  | one c => exact c.y9 H
  | agg cs =>
    intro c hc
    obtain ⟨d, _, rfl⟩ := List.mem_map.1 hc
    exact d.y9 H
theorem AV.y9 (H : List (Option (List CV))) (c : AV) : (c.cl H).ok (okB H) := by
  cases c with
  | t x => exact x.y9 H
  | tup xs =>
    intro c hc
    obtain ⟨d, _, rfl⟩ := List.mem_map.1 hc
    exact d.y9 H
  | mb b x => exact x.y9 H
  | any => trivial
def clE (H : List (Option (List CV))) (e : List (Nat × AV)) : List (Nat × AV) := e.map fun p => (p.1, p.2.cl H)
def clG (H : List (Option (List CV))) (g : List (Nat × List (Nat × AV))) : List (Nat × List (Nat × AV)) := g.map fun p => (p.1, clE H p.2)
theorem af9 (H : List (Option (List CV))) (t : Nat) : ∀ e : List (Nat × AV), lk (clE H e) t = (lk e t).cl H
  | [] => rfl
  | (k, v) :: r => by
    simp only [clE, List.map_cons, lk]
    split
    · rfl
    · exact af9 H t r
theorem agj (H : List (Option (List CV))) (f : Nat) : ∀ g : List (Nat × List (Nat × AV)), gf (clG H g) f = clE H (gf g f)
  | [] => rfl
  | (k, v) :: r => by
    simp only [clG, List.map_cons, gf]
    split
    · rfl
    · exact agj H f r
theorem z8.cl (H : List (Option (List CV))) (g : List (Nat × List (Nat × AV))) : z8 H (clG H g) := fun p hp q hq => by
  obtain ⟨p', _, rfl⟩ := List.mem_map.1 hp
  obtain ⟨q', _, rfl⟩ := List.mem_map.1 hq
  exact q'.2.y9 H
section
variable {H : List (Option (List CV))} {w w' : World} {J J' : Nat -> Option Nat} {Z Z' : Nat -> Prop}
theorem bK.cl {v : Value} {c : CV} (h : bK w J Z v c) : bK w J Z v (c.cl H) := by
  cases c with
  | slc i off n E => simp only [CV.cl]; split <;> first | exact h | exact bK.one h
  | ptr i o => simp only [CV.cl]; split <;> first | exact h | exact bK.one h
  | mp i => simp only [CV.cl]; split <;> first | exact h | exact bK.one h
  | it i => simp only [CV.cl]; split <;> first | exact h | exact bK.one h
  | ml => exact h.elim
  | mt => exact h.elim
  | fn f a b => simp only [CV.cl]; split <;> first | exact h | exact bK.one h
  | _ => exact h
theorem bQ.cl {v : Value} {c : TV} (h : bQ w J Z v c) : bQ w J Z v (c.cl H) := by
  cases c with
  | one c => exact bK.cl h
  | agg cs => obtain ⟨A, e, h⟩ := h; exact ⟨A, e, aO.dG.2 (h.mono fun _ _ => bK.cl)⟩
theorem bB.cl {v : Value} {c : AV} (h : bB w J Z v c) : bB w J Z v (c.cl H) := by
  cases c with
  | t x => exact bQ.cl h
  | tup xs => obtain ⟨A, e, h⟩ := h; exact ⟨A, e, aO.dG.2 (h.mono fun _ _ => bQ.cl)⟩
  | mb b x => exact ⟨fun hb => bQ.cl (h.1 hb), h.2⟩
  | any => trivial
theorem aO.both {α β : Type} {R S T : α -> β -> Prop} (h : ∀ a b, R a b -> S a b -> T a b) : ∀ {l : List α} {m : List β}, aO R l m -> aO S l m -> aO T l m
  | [], [], _, _ => trivial
  | _ :: _, _ :: _, ⟨h1, h2⟩, ⟨g1, g2⟩ => ⟨h _ _ h1 g1, aO.both h h2 g2⟩
theorem F3 (hole : ∀ i, hget H i = none -> J i = none) : ∀ {l : List Value} {m : List LV}, aO (j3 w J Z) l m -> m.all (LV.here H) = true
  | [], [], _ => rfl
  | v :: l, c :: m, ⟨h1, h2⟩ => by
    rw [List.all_cons, F3 hole h2, Bool.and_true]
    cases c with
    | iv c => rfl
    | ptr i o =>
      obtain ⟨b, _, hj, _⟩ := h1
      cases hh : hget H i with
      | none => rw [hole i hh] at hj; cases hj
      | some cs => simp [LV.here, hh]
    | mp i =>
      obtain ⟨b, _, hj⟩ := h1
      cases hh : hget H i with
      | none => rw [hole i hh] at hj; cases hj
      | some cs => simp [LV.here, hh]
theorem bK.Gc (hole : ∀ i, hget H i = none -> J i = none) {v : Value} {c : CV} (h : bK w J Z v c) (h' : bK w' J' Z' v (c.cl H)) : bK w' J' Z' v c := by
  cases c with
  | slc i off n E =>
    simp only [CV.cl] at h'
    split at h'
    · exact h'
    · rename_i hn
      rcases h with h | ⟨b, cap, c, e, hv, hj, r⟩
      · exact Or.inl h
      · rw [hole i (by simpa using hn)] at hj; cases hj
  | ptr i o =>
    simp only [CV.cl] at h'
    split at h'
    · exact h'
    · rename_i hn
      obtain ⟨b, hv, hj, _⟩ := h
      rw [hole i (by simpa using hn)] at hj; cases hj
  | mp i =>
    simp only [CV.cl] at h'
    split at h'
    · exact h'
    · rename_i hn
      obtain ⟨b, hv, hj⟩ := h
      rw [hole i (by simpa using hn)] at hj; cases hj
  | it i =>
    simp only [CV.cl] at h'
    split at h'
    · exact h'
    · rename_i hn
      obtain ⟨b, hv, hj⟩ := h
      rw [hole i (by simpa using hn)] at hj; cases hj
  | ml => exact h.elim
  | mt => exact h.elim
  | fn f a b =>
    simp only [CV.cl] at h'
    split at h'
    · exact h'
    · rename_i hn
      obtain ⟨A, B, e, h1, h2⟩ := h
      exact absurd (by rw [F3 hole h1, F3 hole h2]; rfl) hn
  | _ => exact h'
theorem bQ.Gc (hole : ∀ i, hget H i = none -> J i = none) {v : Value} {c : TV} (h : bQ w J Z v c) (h' : bQ w' J' Z' v (c.cl H)) : bQ w' J' Z' v c := by
  cases c with
  | one c => exact bK.Gc hole h h'
  | agg cs =>
    obtain ⟨A, e, h⟩ := h
    obtain ⟨A', e', h'⟩ := h'
    subst e
    cases e'
    exact ⟨A, rfl, aO.both (fun _ _ => bK.Gc hole) h (aO.dG.1 h')⟩
theorem bB.Gc (hole : ∀ i, hget H i = none -> J i = none) {v : Value} {c : AV} (h : bB w J Z v c) (h' : bB w' J' Z' v (c.cl H)) : bB w' J' Z' v c := by
  cases c with
  | t x => exact bQ.Gc hole h h'
  | tup xs =>
    obtain ⟨A, e, h⟩ := h
    obtain ⟨A', e', h'⟩ := h'
    subst e
    cases e'
    exact ⟨A, rfl, aO.both (fun _ _ => bQ.Gc hole) h (aO.dG.1 h')⟩
  | mb b x => exact ⟨fun hb => bQ.Gc hole (h.1 hb) (h'.1 hb), h'.2⟩
  | any => trivial
end
def aoa (g : List (Nat × List (Nat × AV))) (ls : List LS) (fr : Nat) : Prop := ∀ f, fr <= f -> iZ ls f /\ ny g f = g
theorem IX : ∀ g : List (Nat × List (Nat × AV)), ∃ n, ∀ f, n <= f -> ny g f = g
  | [] => ⟨0, fun _ _ => rfl⟩
  | (k, e) :: r => by
    obtain ⟨n, h⟩ := IX r
    refine ⟨n + k + 1, fun f hf => ?_⟩
    simp only [ny]
    rw [if_neg (by omega), h f (by omega)]
theorem CO {P : Program} {k : FuncId} {fn : Func} {c : Code} {args : List TV} {H H' : List (Option (List CV))} {r : AV} (hf : P.funcs[k]? = some fn) (hb : fn.body = some c) (hl : args.length <= fn.ntmps)
    (h : ∀ g ls fr, z8 H g -> aoa g ls fr -> AW P c ⟨au args 0, H, fn.ntmps, g, ⟨ls, fr, none⟩⟩ (anP P fn r H' g ⟨ls, fr, none⟩)) : iD P k args H r H' := by
  intro w0 Z0 J Z s a w vs R hH ha
  subst hH
  refine callsIn_wide.1 (callsIn_of_wp_marks (F := Fence.wide) (n := 0) hf hb trivial ?_)
  have hlen := ha.length
  simp only [Array.length_toList] at hlen
  obtain ⟨n1, f1⟩ := Kg s.gh
  obtain ⟨n2, f2⟩ := Kt s.lp.ls
  obtain ⟨fid, hfid⟩ : ∃ fid, fid = n1 + n2 := ⟨_, rfl⟩
  obtain ⟨n3, f3⟩ := IX (clG s.heap ((fid, s.env) :: s.gh))
  have e1 : gf s.gh fid = [] := f1 _ (by omega)
  have e2 := rF (f2 fid (by omega))
  obtain ⟨M, m1, m2, m3⟩ := R.nodef
  let Z1 : Fr := ⟨Z0.z, fun f t => if f = fid then a.tmps.getD t undef else Z0.g f t, none, M ++ Z0.pin⟩
  have hg0 : ∀ f t, gk (clG s.heap ((fid, s.env) :: s.gh)) f t = (if f = fid then s.get t else gk s.gh f t).cl s.heap := fun f t => by
    show lk (gf (clG s.heap ((fid, s.env) :: s.gh)) f) t = _
    rw [agj, af9]
    congr 1
    exact oQ _ _ _ _ _
  have R1 : Rel w0 Z1 J Z ⟨au args 0, s.heap, fn.ntmps, clG s.heap ((fid, s.env) :: s.gh), ⟨s.lp.ls, n2 + n3, none⟩⟩ { tmps := vs ++ Array.replicate (fn.ntmps - vs.size) undef, defers := [] } w := by
    refine ⟨⟨[], rfl, by simpa [Z1] using m2, fun b hb => m3 b (by simpa [Z1] using hb)⟩, ?_, R.below, R.zfrom, R.zlt, R.jlt, R.inj, R.hole, R.blk, fun t => ?_, fun f t => ?_, fun y hy => ?_, R.lnd, rfl⟩
    · simp; omega
    · simp only [AS.get, nR, Nat.zero_le, if_true, Nat.sub_zero]
      cases hx : args[t]? with
      | none => simp; trivial
      | some x =>
        obtain ⟨u, hu, hr⟩ := ha.get hx
        have : (vs ++ Array.replicate (fn.ntmps - vs.size) undef).getD t undef = u := by
          rw [Array.getElem?_toList] at hu
          have hlt : t < vs.size := (Array.getElem?_eq_some_iff.1 hu).1
          simp only [Array.getD_eq_getD_getElem?, Array.getElem?_append_left hlt, hu, Option.getD_some]
        rw [this]
        exact hr
    · rw [hg0]
      refine bB.cl ?_
      by_cases hf : f = fid
      · simp only [Z1, if_pos hf]; exact R.slots t
      · simp only [Z1, if_neg hf]; exact R.ghost f t
    · obtain ⟨fn', tmps', dd', k0, k1, k2, k3⟩ := R.loops y hy
      refine ⟨fn', tmps', dd', k0, k1, k2, fun t => ?_⟩
      simp only [Z1, if_neg (e2 y hy)]; exact k3 t
  refine wpIn_mono (h _ _ _ (z8.cl _ _) (fun f hf => ⟨f2 f (by omega), f3 f (by omega)⟩) w0 Z1 _ w 0 ⟨_, _, R1⟩) fun e a' w' ⟨s', ⟨J', Z', R'⟩, he, hh, hgg, hlp, q⟩ => ?_
  have fin : LeavesInM Fence.wide 0 P fn a'.tmps (fun e w' => ∃ v J' Z', e = .returned v /\ Rel w0 Z0 J' Z' { s with heap := H' } a w' /\ bB w' J' Z' v r) a'.defers .returning w' := by
    obtain ⟨M', m1', _⟩ := R'.nodef
    refine R'.leaves M' m1' fun a2 w2 R2 h2 h3 => ?_
    split at q
    · rename_i nd l h1
      obtain ⟨hn, rfl⟩ := q
      obtain ⟨vs', hvs, hr⟩ := kF R2 h1 hn
      rw [h2] at hvs
      have hres : (results fn a'.tmps).run P w2 = .ok (if h : vs'.toArray.size = 1 then vs'.toArray[0] else .tuple vs'.toArray) w2 := by
        rw [sO, <- Array.toArray_toList (xs := fn.results), List.mapM_toArray]
        simp only [Sem.run_bind, Sem.run_map, hvs, Result.andThen_ok, Sem.run_pure]
      refine ⟨_, hres, _, J', Z', rfl, ?_, Jv hr⟩
      subst hh
      refine ⟨⟨M, m1, m2, fun b hb => ?_⟩, R.size, R2.below, R2.zfrom, R2.zlt, R2.jlt, R2.inj, R2.hole, R2.blk, fun t => ?_, fun f t => ?_, fun y hy => ?_, R.lnd, R.ro⟩
      · obtain ⟨M4, _, _, n3⟩ := R2.nodef
        exact n3 b (List.mem_append_right _ hb)
      · have := R2.ghost fid t
        rw [hgg, hg0] at this
        simp only [Z1, if_true] at this
        exact bB.Gc R.hole (R.slots t) this
      · have := R2.ghost f t
        rw [hgg, hg0] at this
        by_cases hf : f = fid
        · subst hf
          show bB _ _ _ _ (lk (gf s.gh f) t)
          rw [e1]; trivial
        · simp only [Z1, if_neg hf] at this
          exact bB.Gc R.hole (R.ghost f t) this
      · obtain ⟨fn', tmps', dd', k0, k1, k2, k3⟩ := R2.loops y (by rw [hlp]; exact hy)
        refine ⟨fn', tmps', dd', k0, k1, k2, fun t => ?_⟩
        have := k3 t
        simpa only [Z1, if_neg (e2 y hy)] using this
    · exact q.elim
  cases e <;> simp at he <;> exact fin
theorem z8.cons {H : List (Option (List CV))} {g : List (Nat × List (Nat × AV))} {f : Nat} {e : List (Nat × AV)} (he : ∀ q, q ∈ e -> q.2.ok (okB H)) (h : z8 H g) : z8 H ((f, e) :: g) := fun p hp => by
  rcases List.mem_cons.1 hp with rfl | hp
  · exact he
  · exact h p hp
theorem z8.nil (H : List (Option (List CV))) : z8 H [] := fun p hp => by cases hp
attribute [go_sem] agf AS.mv mvE mvG mvH IL AV.mv TV.mv CV.mv LV.mv adJ MC Si RU
end Go.Sea
