/- Abstract states: how a step turns them. -/
import Derived.Test.YtifoncmlelinjaaSeaA
set_option linter.unusedVariables false
set_option linter.unusedSimpArgs false
namespace Go.Sea
open Go.RowKit

theorem Grow.refl (ok : Nat → Prop) (w : World) (J : Nat → Option Nat) (Z : Nat → Prop) : Grow ok w J Z w J Z :=
  ⟨fun _ _ _ h => h, fun _ h => h, fun _ _ _ => rfl, fun _ _ _ _ c _ _ h => ⟨c, h, rfl⟩, fun _ _ h _ => h⟩

section
variable {w0 : World} {Z0 : Fr} {J J' : Nat → Option Nat} {Z Z' : Nat → Prop} {s s' : AS} {a : Act} {w w' : World}

theorem Rel.step {ok : Nat → Prop} (R : Rel w0 Z0 J Z s a w) (G : Grow ok w J Z w' J' Z') (hb : Below w0.heap.size w w') (zf : ∀ b, Z' b → Z0.z b ∨ w0.heap.size ≤ b) (zl : ∀ b, Z' b → b < w'.heap.size)
    (jl : ∀ i b, J' i = some b → w0.heap.size ≤ b ∧ b < w'.heap.size ∧ ¬ Z' b) (inj : ∀ i j b, J' i = some b → J' j = some b → i = j) (hN : s'.N = s.N)
    (hole : ∀ i, hget s'.heap i = none → J' i = none)
    (cells : ∀ i cs, hget s'.heap i = some cs → cs ≠ [] → ∃ b c e, J' i = some b ∧ w'.heap[b]? = some (.cells c e (0, 0)) ∧ All2 (CRel w' J' Z') (c.toList.take cs.length) cs)
    (env : ∀ t, s'.get t = .any ∨ (s'.get t = s.get t ∧ (s.get t).ok ok)) (gh : ∀ f t, gk s'.gh f t = .any ∨ (gk s'.gh f t = gk s.gh f t ∧ (gk s.gh f t).ok ok)) (hl : s'.lp = s.lp := by rfl) : Rel w0 Z0 J' Z' s' a w' where
  nodef := by
    obtain ⟨M, h1, h2, h3⟩ := R.nodef
    exact ⟨M, h1, h2, fun b hb => ⟨(h3 b hb).1, G.oth b _ (h3 b hb).2 rfl⟩⟩
  size := hN ▸ R.size
  below := R.below.trans hb
  zfrom := zf
  zlt := zl
  jlt := jl
  inj := inj
  hole := hole
  cells := cells
  slots t := by
    rcases env t with h | ⟨h, ho⟩
    · rw [h]; trivial
    · rw [h]; exact ARel.grow G ho (R.slots t)
  ghost f t := by
    rcases gh f t with h | ⟨h, ho⟩
    · rw [h]; trivial
    · rw [h]; exact ARel.grow G ho (R.ghost f t)
  loops x hx := by
    rw [hl] at hx
    obtain ⟨fn, tmps, dd, h0, h1, h2, h3⟩ := R.loops x hx
    exact ⟨fn, tmps, dd, h0, G.oth _ _ h1 rfl, h2, h3⟩
  lnd := by rw [hl]; exact R.lnd
  ro := by rw [hl]; exact R.ro

def AS.put (s : AS) (d : Option Nat) (v : AV) : AS :=
  match d with
  | some d => { s with env := (d, v) :: s.env }
  | none => s
theorem put_N (s : AS) (d : Option Nat) (v : AV) : (s.put d v).N = s.N := by cases d <;> rfl
theorem put_heap (s : AS) (d : Option Nat) (v : AV) : (s.put d v).heap = s.heap := by cases d <;> rfl
theorem Rel.put (R : Rel w0 Z0 J Z s a w) {d : Option Nat} {v : Value} {x : AV} (hd : ∀ k, d = some k → k < s.N) (h : ARel w J Z v x) : Rel w0 Z0 J Z (s.put d x) (a.put d v) w := by
  cases d with
  | none => exact R
  | some d =>
    refine ⟨R.nodef, ?_, R.below, R.zfrom, R.zlt, R.jlt, R.inj, R.hole, R.cells, fun t => ?_, R.ghost, R.loops, R.lnd, R.ro⟩
    · simp [Act.put, AS.put, R.size]
    · have hlt : d < a.tmps.size := by rw [R.size]; exact hd d rfl
      simp only [AS.put, AS.get, lk, Act.put]
      by_cases e : t = d
      · subst e; simp [hlt]; exact h
      · rw [if_neg e]
        have := R.slots t
        simpa [Array.getElem?_setIfInBounds_ne (Ne.symm e)] using this
/-- A value of no matter. -/
theorem Rel.putAny (R : Rel w0 Z0 J Z s a w) {d : Option Nat} {v : Value} : Rel w0 Z0 J Z (s.put d .any) (a.put d v) w := by
  cases d with
  | none => exact R
  | some d =>
    refine ⟨R.nodef, ?_, R.below, R.zfrom, R.zlt, R.jlt, R.inj, R.hole, R.cells, fun t => ?_, R.ghost, R.loops, R.lnd, R.ro⟩
    · simp [Act.put, AS.put, R.size]
    · simp only [AS.put, AS.get, lk, Act.put]
      by_cases e : t = d
      · subst e; simp; trivial
      · rw [if_neg e]
        have := R.slots t
        simpa [Array.getElem?_setIfInBounds_ne (Ne.symm e)] using this

theorem heap_eq_of_drew (w : World) : w.drew.heap = w.heap := rfl
theorem Rel.drew (R : Rel w0 Z0 J Z s a w) : Rel w0 Z0 J Z s a w.drew := by
  have G : Grow (fun _ => True) w J Z w.drew J Z := ⟨fun _ _ _ h => h, fun _ h => h, fun _ _ _ => rfl, fun _ _ _ _ c _ _ h => ⟨c, h, rfl⟩, fun _ _ h _ => h⟩
  refine R.step G (Below.refl _ _).drew R.zfrom R.zlt R.jlt R.inj rfl R.hole (fun i cs h hne => ?_) (fun t => Or.inr ⟨rfl, AV.ok_all _⟩) (fun _ t => Or.inr ⟨rfl, AV.ok_all _⟩)
  obtain ⟨b, c, e, h1, h2, h3⟩ := R.cells i cs h hne
  exact ⟨b, c, e, h1, h2, h3.mono fun _ y => CRel.grow G y.ok_all⟩

def jset (J : Nat → Option Nat) (i b : Nat) : Nat → Option Nat := fun k => if k = i then some b else J k
/-- A new block at a hole. -/
theorem Rel.new (R : Rel w0 Z0 J Z s a w) {nid : Nat} {cs : List CV} {c : Array Value} {e : TypeId} {H : List (Option (List CV))} (hh : hget s.heap nid = none) (h1 : hget H nid = some cs) (h2 : ∀ i, i ≠ nid → hget H i = hget s.heap i)
    (hc : All2 (CRel w J Z) (c.toList.take cs.length) cs) : Rel w0 Z0 (jset J nid w.heap.size) Z { s with heap := H } a (w.alloc (.cells c e)) := by
  have hsz : (w.alloc (.cells c e)).heap.size = w.heap.size + 1 := by simp
  have G : Grow (fun _ => True) w J Z (w.alloc (.cells c e)) (jset J nid w.heap.size) Z := by
    refine ⟨fun i b _ h => ?_, fun _ h => h, fun b hz hb => Below.heap_alloc _ _ _ hb.lt, fun i b _ h c' e' f' hb => ⟨c', ?_, rfl⟩, fun b o hb _ => (Below.heap_alloc _ _ _ (Array.getElem?_eq_some_iff.1 hb).1).trans hb⟩
    · unfold jset
      rw [if_neg]
      · exact h
      · rintro rfl; rw [R.hole _ hh] at h; cases h
    · rw [Below.heap_alloc _ _ _ (R.jlt i b h).2.1]; exact hb
  refine R.step G ((Below.refl _ _).alloc (R.below.size) _) R.zfrom (fun b h => by have := R.zlt b h; omega) (fun i b h => ?_) (fun i j b hi hj => ?_) rfl (fun i h => ?_) (fun i x h hne => ?_) (fun t => Or.inr ⟨rfl, AV.ok_all _⟩) (fun _ t => Or.inr ⟨rfl, AV.ok_all _⟩)
  · unfold jset at h
    split at h
    · cases h; exact ⟨R.below.size, by omega, fun hz => by have := R.zlt _ hz; omega⟩
    · have := R.jlt i b h; exact ⟨this.1, by omega, this.2.2⟩
  · unfold jset at hi hj
    split at hi <;> split at hj
    · omega
    · cases hi; have := R.jlt j _ hj; omega
    · cases hj; have := R.jlt i _ hi; omega
    · exact R.inj i j b hi hj
  · unfold jset
    by_cases k : i = nid
    · subst k; simp [h1] at h
    · rw [if_neg k]; simp only [h2 i k] at h; exact R.hole i h
  · by_cases k : i = nid
    · subst k
      simp only [h1, Option.some.injEq] at h
      subst h
      exact ⟨w.heap.size, c, e, by simp [jset], heap_alloc_new w _, hc.mono fun _ y => CRel.grow G y.ok_all⟩
    · simp only [h2 i k] at h
      obtain ⟨b, c', e', g1, g2, g3⟩ := R.cells i x h hne
      exact ⟨b, c', e', by simp [jset, k, g1], by rw [Below.heap_alloc _ _ _ (R.jlt i b g1).2.1]; exact g2, g3.mono fun _ y => CRel.grow G y.ok_all⟩

/-- A block of the call's own is written. -/
theorem Rel.set (R : Rel w0 Z0 J Z s a w) {i b : Nat} {cs0 cs : List CV} {c c' : Array Value} {e : TypeId} {H : List (Option (List CV))} (h0 : hget s.heap i = some cs0) (hj : J i = some b) (hb : w.heap[b]? = some (.cells c e (0, 0))) (hsz : c'.size = c.size)
    (h1 : hget H i = some cs) (h2 : ∀ k, k ≠ i → hget H k = hget s.heap k) (hc : All2 (CRel w J Z) (c'.toList.take cs.length) cs) : Rel w0 Z0 J Z { s with heap := H } a (w.setRow b c') := by
  have hs : ∀ k, k ≠ b → (w.setRow b c').heap[k]? = w.heap[k]? := fun k hk => by
    simp only [World.setRow, Array.getElem?_modify]; rw [if_neg (by omega)]
  have hs' := setRow_heap w b c c' e (0, 0) hb
  have hlt := R.jlt i b hj
  have G : Grow (fun _ => True) w J Z (w.setRow b c') J Z := by
    refine ⟨fun _ _ _ h => h, fun _ h => h, fun b' hz _ => hs b' (fun e => hlt.2.2 (e ▸ hz)), fun k b' _ h c1 e1 f1 hb1 => ?_, fun b' o h ho => (hs b' (fun e => by subst e; rw [hb] at h; cases h; cases ho)).trans h⟩
    by_cases hk : b' = b
    · subst hk
      rw [hb] at hb1
      cases hb1
      exact ⟨c', hs', hsz⟩
    · exact ⟨c1, by rw [hs b' hk]; exact hb1, rfl⟩
  have hbel : Below w0.heap.size w (w.setRow b c') := ⟨rfl, rfl, rfl, by simp, fun k hk => hs k (by omega)⟩
  refine R.step G hbel R.zfrom (fun b h => by have := R.zlt b h; simpa using this) (fun k b' h => by have := R.jlt k b' h; simpa using this) R.inj rfl (fun k h => ?_) (fun k x h hne => ?_) (fun t => Or.inr ⟨rfl, AV.ok_all _⟩) (fun _ t => Or.inr ⟨rfl, AV.ok_all _⟩)
  · by_cases hk : k = i
    · subst hk; simp [h1] at h
    · simp only [h2 k hk] at h; exact R.hole k h
  · by_cases hk : k = i
    · subst hk
      simp only [h1, Option.some.injEq] at h
      subst h
      exact ⟨b, c', e, hj, hs', hc.mono fun _ y => CRel.grow G y.ok_all⟩
    · simp only [h2 k hk] at h
      obtain ⟨b', c1, e1, g1, g2, g3⟩ := R.cells k x h hne
      have hne : b' ≠ b := fun e => hk (R.inj k i b (e ▸ g1) hj)
      exact ⟨b', c1, e1, g1, by rw [hs b' hne]; exact g2, g3.mono fun _ y => CRel.grow G y.ok_all⟩

/-- An empty block. -/
theorem Rel.newEmpty (R : Rel w0 Z0 J Z s a w) {nid : Nat} {H : List (Option (List CV))} (hh : hget s.heap nid = none) (h1 : hget H nid = some []) (h2 : ∀ i, i ≠ nid → hget H i = hget s.heap i) : Rel w0 Z0 J Z { s with heap := H } a w := by
  refine ⟨R.nodef, R.size, R.below, R.zfrom, R.zlt, R.jlt, R.inj, fun i h => ?_, fun i cs h hne => ?_, R.slots, R.ghost, R.loops, R.lnd, R.ro⟩
  · by_cases k : i = nid
    · subst k; rw [show (({ s with heap := H } : AS).heap) = H from rfl, h1] at h; cases h
    · rw [show (({ s with heap := H } : AS).heap) = H from rfl, h2 i k] at h; exact R.hole i h
  · by_cases k : i = nid
    · subst k; rw [show (({ s with heap := H } : AS).heap) = H from rfl, h1] at h; cases h; exact absurd rfl hne
    · rw [show (({ s with heap := H } : AS).heap) = H from rfl, h2 i k] at h; exact R.cells i cs h hne
theorem Rel.same (R : Rel w0 Z0 J Z s a w) {H : List (Option (List CV))} (h : ∀ i, hget H i = hget s.heap i) : Rel w0 Z0 J Z { s with heap := H } a w :=
  ⟨R.nodef, R.size, R.below, R.zfrom, R.zlt, R.jlt, R.inj, fun i hi => R.hole i ((h i).symm.trans hi), fun i cs hi => R.cells i cs ((h i).symm.trans hi), R.slots, R.ghost, R.loops, R.lnd, R.ro⟩
/-- A call of a function that turns nothing that was there. -/
theorem Rel.call (R : Rel w0 Z0 J Z s a w) (hb : Below w.heap.size w w') : Rel w0 Z0 J (fun b => Z b ∨ (w.heap.size ≤ b ∧ b < w'.heap.size)) s a w' ∧ Grow (fun _ => True) w J Z w' J (fun b => Z b ∨ (w.heap.size ≤ b ∧ b < w'.heap.size)) := by
  have hsz := hb.size
  have G : Grow (fun _ => True) w J Z w' J (fun b => Z b ∨ (w.heap.size ≤ b ∧ b < w'.heap.size)) :=
    ⟨fun _ _ _ h => h, fun _ h => Or.inl h, fun b hz hlt => hb.block b hlt.lt, fun i b _ h c e f hc => ⟨c, by rw [hb.block b (R.jlt i b h).2.1]; exact hc, rfl⟩, fun b o h _ => (hb.block b (Array.getElem?_eq_some_iff.1 h).1).trans h⟩
  refine ⟨R.step G (hb.mono R.below.size) (fun b h => ?_) (fun b h => ?_) (fun i b h => ?_) R.inj rfl R.hole (fun i cs h hne => ?_) (fun t => Or.inr ⟨rfl, AV.ok_all _⟩) (fun _ t => Or.inr ⟨rfl, AV.ok_all _⟩), G⟩
  · rcases h with h | h
    · exact R.zfrom b h
    · exact Or.inr (by have := R.below.size; omega)
  · rcases h with h | h
    · have := R.zlt b h; omega
    · exact h.2
  · have := R.jlt i b h
    exact ⟨this.1, by omega, fun h' => by
      rcases h' with h' | h'
      · exact this.2.2 h'
      · omega⟩
  · obtain ⟨b, c, e, g1, g2, g3⟩ := R.cells i cs h hne
    exact ⟨b, c, e, g1, by rw [hb.block b (R.jlt i b g1).2.1]; exact g2, g3.mono fun _ y => CRel.grow G y.ok_all⟩

theorem All2.comp {α β γ : Type} {R : α → β → Prop} {S : β → γ → Prop} {T : α → γ → Prop} (h : ∀ a b c, R a b → S b c → T a c) : ∀ {l : List α} {m : List β} {n : List γ}, All2 R l m → All2 S m n → All2 T l n
  | [], [], [], _, _ => trivial
  | _ :: _, _ :: _, _ :: _, ⟨h1, h2⟩, ⟨k1, k2⟩ => ⟨h _ _ _ h1 k1, All2.comp h h2 k2⟩
/-- nil may be read as an empty own slice. -/
def nilC : CV → CV → Prop
  | .iv (.g v), .slc _ _ n _ => n = 0 ∧ v = .slice none 0 0
  | .iv c, .iv d => c.eqv d
  | _, _ => False
def nilA : AV → AV → Prop
  | .t (.one c), .t (.one d) => nilC c d
  | _, _ => False
theorem nilC_rel {w : World} {J J' : Nat → Option Nat} {Z : Nat → Prop} {v : Value} {c d : CV} (h : nilC c d) (hv : CRel w J Z v c) : CRel w J' Z v d := by
  unfold nilC at h
  split at h
  · obtain ⟨rfl, rfl⟩ := h
    cases hv
    exact Or.inl ⟨rfl, rfl⟩
  · exact Rd.eqv hv h
  · exact h.elim
theorem nilA_rel {w : World} {J J' : Nat → Option Nat} {Z : Nat → Prop} {v : Value} {c d : AV} (h : nilA c d) (hv : ARel w J Z v c) : ARel w J' Z v d := by
  unfold nilA at h
  split at h
  · exact nilC_rel h hv
  · exact h.elim
def wkA (ok : Nat → Prop) (x y : AV) : Prop := y = .any ∨ (y = x ∧ x.ok ok) ∨ nilA x y
def wkV (ok : Nat → Prop) (x y : CV) : Prop := y = .any ∨ (x = y ∧ y.ok ok) ∨ nilC x y
/-- Slots and blocks are forgotten: a slot reads as it did or as anything; a block stands as it did or is no more, and then nobody names it. -/
theorem Rel.weak (R : Rel w0 Z0 J Z s a w) (hN : s'.N = s.N) (henv : ∀ t, wkA (fun i => (hget s'.heap i).isSome = true) (s.get t) (s'.get t))
    (hgh : ∀ f t, wkA (fun i => (hget s'.heap i).isSome = true) (gk s.gh f t) (gk s'.gh f t)) (hl : s'.lp = s.lp)
    (hheap : ∀ i cs, hget s'.heap i = some cs → cs ≠ [] → ∃ cs0, hget s.heap i = some cs0 ∧ All2 (wkV fun i => (hget s'.heap i).isSome = true) (cs0.take cs.length) cs) :
    Rel w0 Z0 (fun i => if (hget s'.heap i).isSome then J i else none) Z s' a w := by
  have G : Grow (fun i => (hget s'.heap i).isSome = true) w J Z w (fun i => if (hget s'.heap i).isSome then J i else none) Z :=
    ⟨fun i b h hj => by simp only [h, hj, if_true], fun _ h => h, fun _ _ _ => rfl, fun _ _ _ _ c _ _ h => ⟨c, h, rfl⟩, fun _ _ h _ => h⟩
  have sub : ∀ i b, (if (hget s'.heap i).isSome then J i else none) = some b → J i = some b := fun i b h => by
    split at h
    · exact h
    · cases h
  refine ⟨R.nodef, hN ▸ R.size, R.below, R.zfrom, R.zlt, fun i b h => R.jlt i b (sub i b h), fun i j b hi hj => R.inj i j b (sub i b hi) (sub j b hj), fun i h => by simp [h], fun i cs h hne => ?_, fun t => ?_, fun f t => ?_, fun x hx => R.loops x (hl ▸ hx), by rw [hl]; exact R.lnd, by rw [hl]; exact R.ro⟩
  · obtain ⟨cs0, g0, g1⟩ := hheap i cs h hne
    have hlen := g1.length
    rw [List.length_take] at hlen
    obtain ⟨b, c, e, k1, k2, k3⟩ := R.cells i cs0 g0 (by rintro rfl; cases cs <;> simp at hlen hne)
    refine ⟨b, c, e, by simp [h, k1], k2, ?_⟩
    have k4 := k3.take cs.length
    rw [List.take_take, show min cs.length cs0.length = cs.length by omega] at k4
    refine All2.comp (fun x y z hx hy => ?_) k4 g1
    rcases hy with rfl | ⟨rfl, ho⟩ | hy
    · exact CRel.one hx
    · exact CRel.grow G ho hx
    · exact nilC_rel hy hx
  · rcases henv t with h | ⟨h, ho⟩ | h
    · rw [h]; trivial
    · rw [h]; exact ARel.grow G ho (R.slots t)
    · exact nilA_rel h (R.slots t)
  · rcases hgh f t with h | ⟨h, ho⟩ | h
    · rw [h]; trivial
    · rw [h]; exact ARel.grow G ho (R.ghost f t)
    · exact nilA_rel h (R.ghost f t)

def LV.has (i : Nat) : LV → Bool
  | .ptr j _ => j == i
  | _ => false
def CV.has (i : Nat) : CV → Bool
  | .slc j _ _ _ | .ptr j _ => j == i
  | .fn _ a b => a.any (LV.has i) || b.any (LV.has i)
  | _ => false
def TV.has (i : Nat) : TV → Bool
  | .one c => c.has i
  | .agg cs => cs.any (CV.has i)
def AV.has (i : Nat) : AV → Bool
  | .t x | .mb _ x => x.has i
  | .tup xs => xs.any (TV.has i)
  | .any => false
def CV.purge (i : Nat) (c : CV) : CV := bif c.has i then .any else c
def AV.purge (i : Nat) (c : AV) : AV := bif c.has i then .any else c
def purgeE (i : Nat) (env : List (Nat × AV)) : List (Nat × AV) := env.map fun p => (p.1, p.2.purge i)
def purgeC (i : Nat) (cs : List CV) : List CV := cs.map (CV.purge i)
def purgeH (i : Nat) (h : List (Option (List CV))) : List (Option (List CV)) := h.map fun o => o.map (purgeC i)
theorem lk_purge (i : Nat) (t : Nat) : ∀ env : List (Nat × AV), lk (purgeE i env) t = (lk env t).purge i
  | [] => rfl
  | (k, v) :: r => by
    simp only [purgeE, List.map_cons, lk]
    split
    · rfl
    · exact lk_purge i t r
theorem hget_purge (i k : Nat) (h : List (Option (List CV))) : hget (purgeH i h) k = (hget h k).map (purgeC i) := by
  simp only [hget, purgeH, List.getElem?_map]
  cases h[k]? <;> rfl
theorem LV.ok_has {i : Nat} {c : LV} (h : c.has i = false) : c.ok (· ≠ i) := by
  cases c with
  | iv c => trivial
  | ptr j o => simp only [LV.has, beq_eq_false_iff_ne] at h; exact h
theorem CV.ok_has {i : Nat} {c : CV} (h : c.has i = false) : c.ok (· ≠ i) := by
  cases c with
  | slc j o n E => simp only [CV.has, beq_eq_false_iff_ne] at h; exact h
  | ptr j o => simp only [CV.has, beq_eq_false_iff_ne] at h; exact h
  | fn f a b =>
    simp only [CV.has, Bool.or_eq_false_iff, List.any_eq_false, Bool.not_eq_true] at h
    exact ⟨fun l hl => LV.ok_has (h.1 l hl), fun l hl => LV.ok_has (h.2 l hl)⟩
  | _ => trivial
theorem TV.ok_has {i : Nat} {c : TV} (h : c.has i = false) : c.ok (· ≠ i) := by
  cases c with
  | one c => exact CV.ok_has h
  | agg cs =>
    simp only [TV.has, List.any_eq_false, Bool.not_eq_true] at h
    exact fun l hl => CV.ok_has (h l hl)
theorem AV.ok_has {i : Nat} {c : AV} (h : c.has i = false) : c.ok (· ≠ i) := by
  cases c with
  | t x => exact TV.ok_has h
  | mb b x => exact TV.ok_has h
  | tup xs =>
    simp only [AV.has, List.any_eq_false, Bool.not_eq_true] at h
    exact fun l hl => TV.ok_has (h l hl)
  | any => trivial
theorem CV.purge_ok (i : Nat) (c : CV) : (c.purge i).ok (· ≠ i) := by
  unfold CV.purge
  cases h : c.has i with
  | true => trivial
  | false => exact CV.ok_has h
theorem CRel.purge {w : World} {J : Nat → Option Nat} {Z : Nat → Prop} {v : Value} {c : CV} (i : Nat) (h : CRel w J Z v c) : CRel w J Z v (c.purge i) := by
  unfold CV.purge
  cases c.has i with
  | true => exact CRel.one h
  | false => exact h
theorem AV.purge_or (i : Nat) (c : AV) : c.purge i = .any ∨ (c.purge i = c ∧ c.ok (· ≠ i)) := by
  unfold AV.purge
  cases h : c.has i with
  | true => exact Or.inl rfl
  | false => exact Or.inr ⟨rfl, AV.ok_has h⟩
theorem AV.purge_ok (i : Nat) (c : AV) : (c.purge i).ok (· ≠ i) := by
  rcases AV.purge_or i c with h | ⟨h, h'⟩
  · rw [h]; trivial
  · rw [h]; exact h'
def purgeG (i : Nat) (g : List (Nat × List (Nat × AV))) : List (Nat × List (Nat × AV)) := g.map fun p => (p.1, purgeE i p.2)
theorem gf_purge (i f : Nat) : ∀ g : List (Nat × List (Nat × AV)), gf (purgeG i g) f = purgeE i (gf g f)
  | [] => rfl
  | (k, v) :: r => by
    simp only [purgeG, List.map_cons, gf]
    split
    · rfl
    · exact gf_purge i f r
theorem gk_purge (i f t : Nat) (g : List (Nat × List (Nat × AV))) : gk (purgeG i g) f t = (gk g f t).purge i := by
  simp only [gk, gf_purge, lk_purge]
def AS.purge (i : Nat) (s : AS) : AS := { s with env := purgeE i s.env, gh := purgeG i s.gh, heap := purgeH i s.heap }
theorem Rel.purge (R : Rel w0 Z0 J Z s a w) (i : Nat) : Rel w0 Z0 J Z (s.purge i) a w := by
  refine R.step (Grow.refl (fun _ => True) w J Z) (Below.refl _ _) R.zfrom R.zlt R.jlt R.inj rfl (fun k h => ?_) (fun k cs h hne => ?_) (fun t => ?_) (fun f t => ?_)
  · simp only [AS.purge, hget_purge, Option.map_eq_none_iff] at h; exact R.hole k h
  · simp only [AS.purge, hget_purge, Option.map_eq_some_iff] at h
    obtain ⟨cs0, h, rfl⟩ := h
    obtain ⟨b, c, e, g1, g2, g3⟩ := R.cells k cs0 h (by rintro rfl; exact hne rfl)
    refine ⟨b, c, e, g1, g2, ?_⟩
    rw [purgeC, List.length_map]
    exact All2.map_right.2 (g3.mono fun _ y => CRel.purge i)
  · simp only [AS.purge, AS.get, lk_purge]
    rcases AV.purge_or i (lk s.env t) with h | ⟨h, _⟩
    · exact Or.inl h
    · exact Or.inr ⟨h, AV.ok_all _⟩
  · simp only [AS.purge, gk_purge]
    rcases AV.purge_or i (gk s.gh f t) with h | ⟨h, _⟩
    · exact Or.inl h
    · exact Or.inr ⟨h, AV.ok_all _⟩
/-- An own block that nobody names goes on in a new place, with more cells. -/
theorem Rel.move (R : Rel w0 Z0 J Z s a w) {i : Nat} {cs : List CV} {c : Array Value} {e : TypeId} {H : List (Option (List CV))} (hi : (hget s.heap i).isSome = true) (h1 : hget H i = some cs) (h2 : ∀ k, k ≠ i → hget H k = hget s.heap k)
    (henv : ∀ t, (s.get t).ok (· ≠ i)) (hgh : ∀ f t, (gk s.gh f t).ok (· ≠ i)) (hcells : ∀ k x, hget H k = some x → ∀ y, y ∈ x → y.ok (· ≠ i)) (hc : All2 (CRel w J Z) (c.toList.take cs.length) cs) : Rel w0 Z0 (jset J i w.heap.size) Z { s with heap := H } a (w.alloc (.cells c e)) := by
  have hsz : (w.alloc (.cells c e)).heap.size = w.heap.size + 1 := by simp
  have G : Grow (· ≠ i) w J Z (w.alloc (.cells c e)) (jset J i w.heap.size) Z := by
    refine ⟨fun k b hk h => by simp [jset, hk, h], fun _ h => h, fun b hz hb => Below.heap_alloc _ _ _ hb.lt, fun k b _ h c' e' f' hb => ⟨c', ?_, rfl⟩, fun b o hb _ => (Below.heap_alloc _ _ _ (Array.getElem?_eq_some_iff.1 hb).1).trans hb⟩
    rw [Below.heap_alloc _ _ _ (R.jlt k b h).2.1]; exact hb
  refine R.step G ((Below.refl _ _).alloc (R.below.size) _) R.zfrom (fun b h => by have := R.zlt b h; omega) (fun k b h => ?_) (fun k j b hk hj => ?_) rfl (fun k h => ?_) (fun k x h hne0 => ?_) (fun t => Or.inr ⟨rfl, henv t⟩) (fun f t => Or.inr ⟨rfl, hgh f t⟩)
  · unfold jset at h
    split at h
    · cases h; exact ⟨R.below.size, by omega, fun hz => by have := R.zlt _ hz; omega⟩
    · have := R.jlt k b h; exact ⟨this.1, by omega, this.2.2⟩
  · unfold jset at hk hj
    split at hk <;> split at hj
    · omega
    · cases hk; have := R.jlt j _ hj; omega
    · cases hj; have := R.jlt k _ hk; omega
    · exact R.inj k j b hk hj
  · have hne : k ≠ i := by rintro rfl; rw [h1] at h; cases h
    rw [show (({ s with heap := H } : AS).heap) = H from rfl, h2 k hne] at h
    simp only [jset, if_neg hne]
    exact R.hole k h
  · by_cases hk : k = i
    · subst hk
      have hx := hcells k x h
      simp only [h1, Option.some.injEq] at h
      subst h
      exact ⟨w.heap.size, c, e, by simp [jset], heap_alloc_new w _, hc.mono' fun _ y hy => CRel.grow G (hx y hy)⟩
    · have hx := hcells k x h
      simp only [h2 k hk] at h
      obtain ⟨b, c', e', g1, g2, g3⟩ := R.cells k x h hne0
      exact ⟨b, c', e', by simp [jset, hk, g1], by rw [Below.heap_alloc _ _ _ (R.jlt k b g1).2.1]; exact g2, g3.mono' fun _ y hy => CRel.grow G (hx y hy)⟩

end
end Go.Sea
