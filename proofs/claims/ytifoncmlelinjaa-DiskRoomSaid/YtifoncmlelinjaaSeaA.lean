/- Abstract states: what the slots and the blocks of a call's own memory stand for, by value. -/
import Derived.WalkKit
import Derived.WalkSpells
import Derived.Lib.Hide
import Derived.Deep.RegionHeld3
import Derived.Handy
import Derived.Laws.AppendOwn
import Derived.Laws.StructEq
import Derived.RangeFuncKeeps
import Derived.RangeFuncNested
import Derived.OrdersIn
import Derived.Alone
set_option linter.unusedVariables false
set_option linter.unusedSimpArgs false
namespace Go.Sea
open Go.RowKit

/-- An immutable value of one cell: a plain value, or a list by value: its n elements of E cells each. -/
inductive IV where
  | g (v : Value)
  | lst (E n : Nat) (f : Nat → Nat → IV)
  | ptr (m : Nat) (f : Nat → IV)
/-- What a closure has captured. -/
inductive LV where
  | iv (c : IV)
  | ptr (i o : Nat)
/-- The value of one cell: immutable; an address of immutable cells; a slice of an own block; an address in an own block; a function value; anything. -/
inductive CV where
  | iv (c : IV)
  | ip (m : Nat) (c : Nat → IV)
  | slc (i off n E : Nat)
  | ptr (i o : Nat)
  | fn (f : Fn) (a b : List LV)
  | any
inductive TV where
  | one (c : CV)
  | agg (cs : List CV)
/-- The value of a slot; mb b x: if b, then x. -/
inductive AV where
  | t (x : TV)
  | tup (xs : List TV)
  | mb (b : Bool) (x : TV)
  | any
inductive PT where
  | one (c : IV)
  | agg (cs : List IV)
/-- A value without own memory: an argument's or a result's. -/
inductive PV where
  | t (x : PT)
  | tup (xs : List PT)
abbrev PT.tv : PT → TV
  | .one c => .one (.iv c)
  | .agg cs => .agg (cs.map .iv)
abbrev PV.av : PV → AV
  | .t x => .t x.tv
  | .tup xs => .tup (xs.map PT.tv)

def All2 {α β : Type} (R : α → β → Prop) : List α → List β → Prop
  | [], [] => True
  | a :: l, b :: m => R a b ∧ All2 R l m
  | _, _ => False
theorem All2.mono {α β : Type} {R S : α → β → Prop} (h : ∀ a b, R a b → S a b) : ∀ {l : List α} {m : List β}, All2 R l m → All2 S l m
  | [], [], _ => trivial
  | _ :: _, _ :: _, ⟨h1, h2⟩ => ⟨h _ _ h1, All2.mono h h2⟩
theorem All2.mono' {α β : Type} {R S : α → β → Prop} : ∀ {l : List α} {m : List β}, (∀ a b, b ∈ m → R a b → S a b) → All2 R l m → All2 S l m
  | [], [], _, _ => trivial
  | _ :: _, _ :: _, h, ⟨h1, h2⟩ => ⟨h _ _ (by simp) h1, All2.mono' (fun a b hb => h a b (by simp [hb])) h2⟩
theorem All2.length {α β : Type} {R : α → β → Prop} : ∀ {l : List α} {m : List β}, All2 R l m → l.length = m.length
  | [], [], _ => rfl
  | _ :: _, _ :: _, ⟨_, h2⟩ => by simp [All2.length h2]
theorem All2.get {α β : Type} {R : α → β → Prop} : ∀ {l : List α} {m : List β}, All2 R l m → ∀ {k : Nat} {y : β}, m[k]? = some y → ∃ x, l[k]? = some x ∧ R x y
  | [], [], _, k, y, h => by simp at h
  | a :: _, b :: _, ⟨h1, _⟩, 0, y, h => by simp at h; subst h; exact ⟨a, by simp, h1⟩
  | _ :: l, _ :: m, ⟨_, h2⟩, k + 1, y, h => by simpa using All2.get h2 (k := k) (y := y) (by simpa using h)
theorem All2.of {α β : Type} {R : α → β → Prop} : ∀ {l : List α} {m : List β}, l.length = m.length → (∀ (k : Nat) (x : α) (y : β), l[k]? = some x → m[k]? = some y → R x y) → All2 R l m
  | [], [], _, _ => trivial
  | a :: l, b :: m, h, hr => ⟨hr 0 a b rfl rfl, All2.of (by simpa using h) fun k x y hx hy => hr (k + 1) x y (by simpa using hx) (by simpa using hy)⟩
theorem All2.append {α β : Type} {R : α → β → Prop} : ∀ {l : List α} {m : List β} {l' : List α} {m' : List β}, All2 R l m → All2 R l' m' → All2 R (l ++ l') (m ++ m')
  | [], [], _, _, _, h => h
  | _ :: _, _ :: _, _, _, ⟨h1, h2⟩, h => ⟨h1, h2.append h⟩
theorem All2.take {α β : Type} {R : α → β → Prop} : ∀ {l : List α} {m : List β} (k : Nat), All2 R l m → All2 R (l.take k) (m.take k)
  | _, _, 0, _ => by simp [All2]
  | [], [], _ + 1, _ => trivial
  | _ :: _, _ :: _, k + 1, ⟨h1, h2⟩ => ⟨h1, h2.take k⟩
theorem All2.drop {α β : Type} {R : α → β → Prop} : ∀ {l : List α} {m : List β} (k : Nat), All2 R l m → All2 R (l.drop k) (m.drop k)
  | _, _, 0, h => by simpa using h
  | [], [], _ + 1, _ => trivial
  | _ :: _, _ :: _, k + 1, ⟨_, h2⟩ => by simpa using h2.drop k
theorem All2.map_right {α β γ : Type} {R : α → γ → Prop} {f : β → γ} : ∀ {l : List α} {m : List β}, All2 R l (m.map f) ↔ All2 (fun a b => R a (f b)) l m
  | [], [] => Iff.rfl
  | [], _ :: _ => Iff.rfl
  | _ :: _, [] => Iff.rfl
  | _ :: _, _ :: _ => ⟨fun h => ⟨h.1, All2.map_right.1 h.2⟩, fun h => ⟨h.1, All2.map_right.2 h.2⟩⟩

/-- v stands for the immutable value in the world w, read through blocks in Z alone. -/
inductive Rd (w : World) (Z : Nat → Prop) : Value → IV → Prop
  | g (v : Value) (h : v.oneCell' = true) : Rd w Z v (.g v)
  | nil (p : Option Addr) (cap E : Nat) (f : Nat → Nat → IV) : Rd w Z (.slice p 0 cap) (.lst E 0 f)
  | lst (b off n cap E : Nat) (f : Nat → Nat → IV) (X : Nat → Nat → Value) (hz : Z b) (hn : n ≤ cap) (hm : cap ≤ maxLen)
      (h1 : ∀ i o, i < n → o < E → w.cell? ⟨b, off + i * E + o, none⟩ = some (X i o)) (h2 : ∀ i o, i < n → o < E → Rd w Z (X i o) (f i o)) :
      Rd w Z (.slice (some ⟨b, off, none⟩) n cap) (.lst E n f)
  | ptr (b off m : Nat) (f : Nat → IV) (X : Nat → Value) (hz : Z b) (h1 : ∀ o, o < m → w.cell? ⟨b, off + o, none⟩ = some (X o)) (h2 : ∀ o, o < m → Rd w Z (X o) (f o)) :
      Rd w Z (.pointer (some ⟨b, off, none⟩)) (.ptr m f)

theorem Rd.one {w : World} {Z : Nat → Prop} {v : Value} {c : IV} (h : Rd w Z v c) : v.oneCell' = true := by cases h <;> first | assumption | rfl
def IsCells (w : World) (b : Nat) : Prop := ∃ c e f, w.heap[b]? = some (.cells c e f)
theorem IsCells.lt {w : World} {b : Nat} (h : IsCells w b) : b < w.heap.size := by
  obtain ⟨c, e, f, h⟩ := h
  exact (Array.getElem?_eq_some_iff.1 h).1
theorem isCells_of {w : World} {b k : Nat} {v : Value} (h : w.cell? ⟨b, k, none⟩ = some v) : IsCells w b := by
  unfold World.cell? at h
  simp only at h
  split at h
  · rename_i c e f hb; exact ⟨c, e, f, hb⟩
  · cases h
theorem Rd.mono {w w' : World} {Z Z' : Nat → Prop} {v : Value} {c : IV} (h : Rd w Z v c) (hz : ∀ b, Z b → Z' b) (hb : ∀ b, Z b → IsCells w b → w'.heap[b]? = w.heap[b]?) : Rd w' Z' v c := by
  induction h with
  | g v h => exact .g v h
  | nil p cap E f => exact .nil p cap E f
  | lst b off n cap E f X z hn hm h1 _ ih =>
    refine .lst b off n cap E f X (hz b z) hn hm (fun i o hi ho => ?_) ih
    have := h1 i o hi ho
    have hlt := isCells_of this
    rw [World.cell?_of_block (w := w) (w' := w') (a := ⟨b, off + i * E + o, none⟩) (hb b z hlt)]
    exact this
  | ptr b off m f X z h1 _ ih =>
    refine .ptr b off m f X (hz b z) (fun o ho => ?_) ih
    have := h1 o ho
    have hlt := isCells_of this
    rw [World.cell?_of_block (w := w) (w' := w') (a := ⟨b, off + o, none⟩) (hb b z hlt)]
    exact this

def LRel (w : World) (J : Nat → Option Nat) (Z : Nat → Prop) (v : Value) : LV → Prop
  | .iv c => Rd w Z v c
  | .ptr i o => ∃ b, v = .pointer (some ⟨b, o, none⟩) ∧ J i = some b
def CRel (w : World) (J : Nat → Option Nat) (Z : Nat → Prop) (v : Value) : CV → Prop
  | .iv c => Rd w Z v c
  | .ip m c => ∃ (b off : Nat) (X : Nat → Value), v = .pointer (some ⟨b, off, none⟩) ∧ Z b ∧ ∀ o, o < m → w.cell? ⟨b, off + o, none⟩ = some (X o) ∧ Rd w Z (X o) (c o)
  | .slc i off n E => (n = 0 ∧ v = .slice none 0 0) ∨ ∃ b cap c e, v = .slice (some ⟨b, off, none⟩) n cap ∧ J i = some b ∧ n ≤ cap ∧ cap ≤ maxLen ∧ w.heap[b]? = some (.cells c e (0, 0)) ∧ off + cap * E ≤ c.size
  | .ptr i o => ∃ b, v = .pointer (some ⟨b, o, none⟩) ∧ J i = some b
  | .fn f a b => ∃ A B, v = .func f A B ∧ All2 (LRel w J Z) A.toList a ∧ All2 (LRel w J Z) B.toList b
  | .any => v.oneCell' = true
def TRel (w : World) (J : Nat → Option Nat) (Z : Nat → Prop) (v : Value) : TV → Prop
  | .one c => CRel w J Z v c
  | .agg cs => ∃ A : Array Value, v = .agg A ∧ All2 (CRel w J Z) A.toList cs
def ARel (w : World) (J : Nat → Option Nat) (Z : Nat → Prop) (v : Value) : AV → Prop
  | .t x => TRel w J Z v x
  | .tup xs => ∃ A : Array Value, v = .tuple A ∧ All2 (TRel w J Z) A.toList xs
  | .mb b x => (b = true → TRel w J Z v x) ∧ (b = false → v = undef)
  | .any => True
def PTRel (w : World) (Z : Nat → Prop) (v : Value) : PT → Prop
  | .one c => Rd w Z v c
  | .agg cs => ∃ A : Array Value, v = .agg A ∧ All2 (Rd w Z) A.toList cs
def PRel (w : World) (Z : Nat → Prop) (v : Value) : PV → Prop
  | .t x => PTRel w Z v x
  | .tup xs => ∃ A : Array Value, v = .tuple A ∧ All2 (PTRel w Z) A.toList xs

/-- The same as far as it is read. -/
def IV.eqv : IV → IV → Prop
  | .g v, .g u => v = u
  | .lst E n f, .lst E' n' f' => E = E' ∧ n = n' ∧ ∀ i o, i < n → o < E → IV.eqv (f i o) (f' i o)
  | .ptr m f, .ptr m' f' => m' = m ∧ ∀ o, o < m → IV.eqv (f o) (f' o)
  | .g v, .lst _ n _ => n = 0 ∧ v = .slice none 0 0
  | _, _ => False
theorem IV.eqv_refl : ∀ c : IV, c.eqv c
  | .g _ => rfl
  | .lst _ _ f => ⟨rfl, rfl, fun i o _ _ => IV.eqv_refl (f i o)⟩
  | .ptr _ f => ⟨rfl, fun o _ => IV.eqv_refl (f o)⟩
theorem IV.eqv_trans : ∀ {c d e : IV}, c.eqv d → d.eqv e → c.eqv e
  | .g _, .g _, .g _, h, h' => h.trans h'
  | .lst _ _ f, .lst _ _ f', .lst _ _ _, ⟨rfl, rfl, h⟩, ⟨rfl, rfl, h'⟩ => ⟨rfl, rfl, fun i o hi ho => IV.eqv_trans (h i o hi ho) (h' i o hi ho)⟩
  | .ptr _ f, .ptr _ f', .ptr _ _, ⟨rfl, h⟩, ⟨rfl, h'⟩ => ⟨rfl, fun o ho => IV.eqv_trans (h o ho) (h' o ho)⟩
  | .g _, .g _, .lst _ _ _, h, h' => ⟨h'.1, h.trans h'.2⟩
  | .g _, .lst _ _ _, .lst _ _ _, h, h' => ⟨h'.2.1 ▸ h.1, h.2⟩
def PT.eqv : PT → PT → Prop
  | .one c, .one d => c.eqv d
  | .agg cs, .agg ds => All2 IV.eqv cs ds
  | _, _ => False
def PV.eqv : PV → PV → Prop
  | .t x, .t y => x.eqv y
  | .tup xs, .tup ys => All2 PT.eqv xs ys
  | _, _ => False
theorem All2.refl {α : Type} {R : α → α → Prop} (h : ∀ a, R a a) : ∀ l : List α, All2 R l l
  | [] => trivial
  | a :: l => ⟨h a, All2.refl h l⟩
theorem All2.trans2 {α β γ : Type} {R : α → β → Prop} {S : β → γ → Prop} {T : α → γ → Prop} (h : ∀ a b c, R a b → S b c → T a c) : ∀ {l : List α} {m : List β} {k : List γ}, All2 R l m → All2 S m k → All2 T l k
  | [], [], [], _, _ => trivial
  | _ :: _, _ :: _, _ :: _, ⟨h1, h2⟩, ⟨g1, g2⟩ => ⟨h _ _ _ h1 g1, All2.trans2 h h2 g2⟩
theorem PT.eqv_refl (x : PT) : x.eqv x := by
  cases x with
  | one c => exact c.eqv_refl
  | agg cs => exact All2.refl IV.eqv_refl cs
theorem PV.eqv_refl (x : PV) : x.eqv x := by
  cases x with
  | t x => exact x.eqv_refl
  | tup xs => exact All2.refl PT.eqv_refl xs
theorem Rd.eqv {w : World} {Z : Nat → Prop} {v : Value} {c d : IV} (h : Rd w Z v c) (he : c.eqv d) : Rd w Z v d := by
  induction h generalizing d with
  | g v h =>
    cases d with
    | g u => cases he; exact .g v h
    | lst E n f => obtain ⟨rfl, rfl⟩ := he; exact .nil _ _ _ _
    | ptr => exact he.elim
  | nil p cap E f =>
    cases d with
    | g u => exact he.elim
    | lst E' n' f' => obtain ⟨rfl, rfl, _⟩ := he; exact .nil p cap _ _
    | ptr => exact he.elim
  | lst b off n cap E f X hz hn hm h1 _ ih =>
    cases d with
    | g u => exact he.elim
    | lst E' n' f' =>
      obtain ⟨rfl, rfl, he⟩ := he
      exact .lst b off _ cap _ _ X hz hn hm h1 fun i o hi ho => ih i o hi ho (he i o hi ho)
    | ptr => exact he.elim
  | ptr b off m f X hz h1 _ ih =>
    cases d with
    | g u => exact he.elim
    | lst => exact he.elim
    | ptr m' f' =>
      obtain ⟨rfl, he⟩ := he
      exact .ptr b off _ _ X hz h1 fun o ho => ih o ho (he o ho)
theorem PTRel.eqv {w : World} {Z : Nat → Prop} {v : Value} {c d : PT} (h : PTRel w Z v c) (he : c.eqv d) : PTRel w Z v d := by
  cases c <;> cases d <;> first | exact he.elim | skip
  · exact Rd.eqv h he
  · obtain ⟨A, e, h⟩ := h
    exact ⟨A, e, All2.trans2 (S := IV.eqv) (T := Rd w Z) (fun _ _ _ h he => Rd.eqv h he) h he⟩
theorem PRel.eqv {w : World} {Z : Nat → Prop} {v : Value} {c d : PV} (h : PRel w Z v c) (he : c.eqv d) : PRel w Z v d := by
  cases c <;> cases d <;> first | exact he.elim | skip
  · exact PTRel.eqv h he
  · obtain ⟨A, e, h⟩ := h
    exact ⟨A, e, All2.trans2 (S := PT.eqv) (T := PTRel w Z) (fun _ _ _ h he => PTRel.eqv h he) h he⟩

theorem PTRel.tv {w : World} {J : Nat → Option Nat} {Z : Nat → Prop} {v : Value} {x : PT} (h : PTRel w Z v x) : TRel w J Z v x.tv := by
  cases x with
  | one c => exact h
  | agg cs => obtain ⟨A, e, h⟩ := h; exact ⟨A, e, All2.map_right.2 h⟩
theorem PRel.av {w : World} {J : Nat → Option Nat} {Z : Nat → Prop} {v : Value} {x : PV} (h : PRel w Z v x) : ARel w J Z v x.av := by
  cases x with
  | t x => exact PTRel.tv h
  | tup xs => obtain ⟨A, e, h⟩ := h; exact ⟨A, e, All2.map_right.2 (h.mono fun _ _ => PTRel.tv)⟩

theorem CRel.one {w : World} {J : Nat → Option Nat} {Z : Nat → Prop} {v : Value} {c : CV} (h : CRel w J Z v c) : v.oneCell' = true := by
  cases c with
  | iv c => exact Rd.one h
  | ip m c => obtain ⟨b, off, X, rfl, _⟩ := h; rfl
  | slc i off n E => rcases h with ⟨_, rfl⟩ | ⟨b, cap, c, e, rfl, _⟩ <;> rfl
  | ptr i o => obtain ⟨b, rfl, _⟩ := h; rfl
  | fn f a b => obtain ⟨A, B, rfl, _⟩ := h; rfl
  | any => exact h

/-- How memory may go on: own blocks keep their place and shape; what is read by value is not turned. ok: the own blocks that still count. -/
structure Grow4 (ok : Nat → Prop) (w : World) (J : Nat → Option Nat) (Z : Nat → Prop) (w' : World) (J' : Nat → Option Nat) (Z' : Nat → Prop) : Prop where
  ptr : ∀ i b, ok i → J i = some b → J' i = some b
  zz : ∀ b, Z b → Z' b
  blk : ∀ b, Z b → IsCells w b → w'.heap[b]? = w.heap[b]?
  shp : ∀ i b, ok i → J i = some b → ∀ c e f, w.heap[b]? = some (.cells c e f) → ∃ c', w'.heap[b]? = some (.cells c' e f) ∧ c'.size = c.size
structure Grow (ok : Nat → Prop) (w : World) (J : Nat → Option Nat) (Z : Nat → Prop) (w' : World) (J' : Nat → Option Nat) (Z' : Nat → Prop) : Prop where
  ptr : ∀ i b, ok i → J i = some b → J' i = some b
  zz : ∀ b, Z b → Z' b
  blk : ∀ b, Z b → IsCells w b → w'.heap[b]? = w.heap[b]?
  shp : ∀ i b, ok i → J i = some b → ∀ c e f, w.heap[b]? = some (.cells c e f) → ∃ c', w'.heap[b]? = some (.cells c' e f) ∧ c'.size = c.size
  oth : ∀ (b : Nat) (o : Obj), w.heap[b]? = some o → o.isCells = false → w'.heap[b]? = some o
theorem Grow.g4 {ok : Nat → Prop} {w w' : World} {J J' : Nat → Option Nat} {Z Z' : Nat → Prop} (g : Grow ok w J Z w' J' Z') : Grow4 ok w J Z w' J' Z' := ⟨g.ptr, g.zz, g.blk, g.shp⟩

def LV.ok (ok : Nat → Prop) : LV → Prop
  | .ptr i _ => ok i
  | _ => True
def CV.ok (ok : Nat → Prop) : CV → Prop
  | .slc i _ _ _ | .ptr i _ => ok i
  | .fn _ a b => (∀ l, l ∈ a → l.ok ok) ∧ (∀ l, l ∈ b → l.ok ok)
  | _ => True
def TV.ok (ok : Nat → Prop) : TV → Prop
  | .one c => c.ok ok
  | .agg cs => ∀ c, c ∈ cs → c.ok ok
def AV.ok (ok : Nat → Prop) : AV → Prop
  | .t x | .mb _ x => x.ok ok
  | .tup xs => ∀ x, x ∈ xs → x.ok ok
  | .any => True

section
variable {ok : Nat → Prop} {w w' : World} {J J' : Nat → Option Nat} {Z Z' : Nat → Prop}
theorem LRel.grow4 (g : Grow4 ok w J Z w' J' Z') {v : Value} {c : LV} (hc : c.ok ok) (h : LRel w J Z v c) : LRel w' J' Z' v c := by
  cases c with
  | iv c => exact Rd.mono h g.zz g.blk
  | ptr i o => obtain ⟨b, e, hj⟩ := h; exact ⟨b, e, g.ptr i b hc hj⟩
theorem CRel.grow4 (g : Grow4 ok w J Z w' J' Z') {v : Value} {c : CV} (hc : c.ok ok) (h : CRel w J Z v c) : CRel w' J' Z' v c := by
  cases c with
  | iv c => exact Rd.mono h g.zz g.blk
  | ip m c =>
    obtain ⟨b, off, X, e, hz, hX⟩ := h
    refine ⟨b, off, X, e, g.zz b hz, fun o ho => ⟨?_, Rd.mono (hX o ho).2 g.zz g.blk⟩⟩
    have h1 := (hX o ho).1
    have hlt := isCells_of h1
    rw [World.cell?_of_block (w := w) (w' := w') (a := ⟨b, off + o, none⟩) (g.blk b hz hlt)]
    exact h1
  | slc i off n E =>
    rcases h with h | ⟨b, cap, c, e, hv, hj, hn, hm, hb, hs⟩
    · exact Or.inl h
    obtain ⟨c', hb', hs'⟩ := g.shp i b hc hj c e (0, 0) hb
    exact Or.inr ⟨b, cap, c', e, hv, g.ptr i b hc hj, hn, hm, hb', by omega⟩
  | ptr i o => obtain ⟨b, e, hj⟩ := h; exact ⟨b, e, g.ptr i b hc hj⟩
  | fn f a b =>
    obtain ⟨A, B, e, h1, h2⟩ := h
    exact ⟨A, B, e, h1.mono' (fun x y hy => LRel.grow4 g (hc.1 y hy)), h2.mono' (fun x y hy => LRel.grow4 g (hc.2 y hy))⟩
  | any => exact h
theorem TRel.grow4 (g : Grow4 ok w J Z w' J' Z') {v : Value} {x : TV} (hc : x.ok ok) (h : TRel w J Z v x) : TRel w' J' Z' v x := by
  cases x with
  | one c => exact CRel.grow4 g hc h
  | agg cs => obtain ⟨A, e, h⟩ := h; exact ⟨A, e, h.mono' fun x y hy => CRel.grow4 g (hc y hy)⟩
theorem ARel.grow4 (g : Grow4 ok w J Z w' J' Z') {v : Value} {x : AV} (hc : x.ok ok) (h : ARel w J Z v x) : ARel w' J' Z' v x := by
  cases x with
  | t x => exact TRel.grow4 g hc h
  | tup xs => obtain ⟨A, e, h⟩ := h; exact ⟨A, e, h.mono' fun x y hy => TRel.grow4 g (hc y hy)⟩
  | mb b x => exact ⟨fun hb => TRel.grow4 g hc (h.1 hb), h.2⟩
  | any => trivial
theorem LRel.grow (g : Grow ok w J Z w' J' Z') {v : Value} {c : LV} (hc : c.ok ok) (h : LRel w J Z v c) : LRel w' J' Z' v c := LRel.grow4 g.g4 hc h
theorem CRel.grow (g : Grow ok w J Z w' J' Z') {v : Value} {c : CV} (hc : c.ok ok) (h : CRel w J Z v c) : CRel w' J' Z' v c := CRel.grow4 g.g4 hc h
theorem TRel.grow (g : Grow ok w J Z w' J' Z') {v : Value} {c : TV} (hc : c.ok ok) (h : TRel w J Z v c) : TRel w' J' Z' v c := TRel.grow4 g.g4 hc h
theorem ARel.grow (g : Grow ok w J Z w' J' Z') {v : Value} {c : AV} (hc : c.ok ok) (h : ARel w J Z v c) : ARel w' J' Z' v c := ARel.grow4 g.g4 hc h
theorem LV.ok_all (c : LV) : c.ok fun _ => True := by cases c <;> trivial
theorem CV.ok_all (c : CV) : c.ok fun _ => True := by
  cases c <;> first | trivial | exact ⟨fun l _ => l.ok_all, fun l _ => l.ok_all⟩
theorem TV.ok_all (c : TV) : c.ok fun _ => True := by
  cases c with
  | one c => exact c.ok_all
  | agg cs => exact fun c _ => c.ok_all
theorem AV.ok_all (c : AV) : c.ok fun _ => True := by
  cases c with
  | t x => exact x.ok_all
  | tup xs => exact fun c _ => c.ok_all
  | mb b x => exact x.ok_all
  | any => trivial
end

/-- A loop over a function that is under way: its record's block and how it stands; the frame that runs it (its slots lie among the ghosts), and its code. -/
structure LS where
  l : Nat
  st : LoopState
  pe : Option Code
  fid : Nat
  N : Nat
  ps : List Tmp
  asg : Code
  body : Code
def LS.loop (x : LS) (fn : FuncId) (tmps : Array Value) (dd : Nat) : Loop := { state := x.st, pending := x.pe, fn, tmps, params := x.ps.toArray, assign := x.asg, body := x.body, defers := dd }
/-- Where a frame stands: the loops under way, the next frame's number, and the round that it is in. -/
structure LP where
  ls : List LS
  fr : Nat
  ro : Option Nat
abbrev LP.top : LP := ⟨[], 0, none⟩
/-- An abstract state: the slots (the last that was written stands first), the own blocks (none: no such block), how many slots there are, the slots of the frames that wait, and the loops under way. -/
structure AS where
  env : List (Nat × AV)
  heap : List (Option (List CV))
  N : Nat
  gh : List (Nat × List (Nat × AV))
  lp : LP
/-- What a frame stands in: the blocks that its arguments were read through, the slots of the frames that wait, the round that it is in, and the marks of the frames that wait. -/
structure Fr where
  z : Nat → Prop
  g : Nat → Nat → Value
  ro : Option Nat
  pin : List Nat
def lk : List (Nat × AV) → Nat → AV
  | [], _ => .any
  | (k, v) :: r, t => if t = k then v else lk r t
abbrev AS.get (s : AS) (t : Nat) : AV := lk s.env t
def gf : List (Nat × List (Nat × AV)) → Nat → List (Nat × AV)
  | [], _ => []
  | (k, e) :: r, f => if f = k then e else gf r f
abbrev gk (h : List (Nat × List (Nat × AV))) (f t : Nat) : AV := lk (gf h f) t
def hget (h : List (Option (List CV))) (i : Nat) : Option (List CV) := (h[i]?).getD none
def mark (b : Nat) : Deferred := { target := .collected b, args := #[] }

/-- The relation between a frame and a world, and an abstract state; w0: the world at the call's start; Z0: the blocks that its arguments were read through. -/
structure Rel (w0 : World) (Z0 : Fr) (J : Nat → Option Nat) (Z : Nat → Prop) (s : AS) (a : Act) (w : World) : Prop where
  nodef : ∃ M : List Nat, a.defers = M.map mark ∧ (M ++ Z0.pin).Nodup ∧ ∀ b, b ∈ M ++ Z0.pin → w0.heap.size ≤ b ∧ w.heap[b]? = some (.deferred (some []))
  size : a.tmps.size = s.N
  below : Below w0.heap.size w0 w
  zfrom : ∀ b, Z b → Z0.z b ∨ w0.heap.size ≤ b
  zlt : ∀ b, Z b → b < w.heap.size
  jlt : ∀ i b, J i = some b → w0.heap.size ≤ b ∧ b < w.heap.size ∧ ¬ Z b
  inj : ∀ i j b, J i = some b → J j = some b → i = j
  hole : ∀ i, hget s.heap i = none → J i = none
  cells : ∀ i cs, hget s.heap i = some cs → cs ≠ [] → ∃ b c e, J i = some b ∧ w.heap[b]? = some (.cells c e (0, 0)) ∧ All2 (CRel w J Z) (c.toList.take cs.length) cs
  slots : ∀ t, ARel w J Z (a.tmps.getD t undef) (s.get t)
  ghost : ∀ f t, ARel w J Z (Z0.g f t) (gk s.gh f t)
  loops : ∀ x, x ∈ s.lp.ls → ∃ fn tmps dd, w0.heap.size ≤ x.l ∧ w.heap[x.l]? = some (.loop (x.loop fn tmps dd)) ∧ tmps.size = x.N ∧ ∀ t, tmps.getD t undef = Z0.g x.fid t
  lnd : (s.lp.ls.map LS.l).Nodup
  ro : s.lp.ro = Z0.ro
def Rep (w0 : World) (Z0 : Fr) (s : AS) (a : Act) (w : World) : Prop := ∃ J Z, Rel w0 Z0 J Z s a w

end Go.Sea
